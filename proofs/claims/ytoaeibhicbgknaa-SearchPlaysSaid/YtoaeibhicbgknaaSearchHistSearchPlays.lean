/- The lines of the statements: which they are, and that each call tells them. -/
import Derived.Test.YtoaeibhicbgknaaSearchFnsSearchPlays
namespace Go.Proofs.Ytoaeibhicbgknaa.QSearchPlays
open Go.RowKit Go.Proofs.YtoaeibhicbgknaaW.PrintWords Go.Proofs.YtoaeibhicbgknaaW.PrintLast Go.Proofs.YtoaeibhicbgknaaW.PrintMore
def nine : List ByteArray := [⟨#[102, 111, 111]⟩, ⟨#[102, 111, 111, 32, 98, 97, 114]⟩, ⟨#[98, 97, 114]⟩, ⟨#[]⟩, ⟨#[120, 32, 121, 32, 122]⟩, ⟨#[195, 169, 230, 188, 162]⟩, ⟨#[102, 111, 111]⟩, ⟨#[97, 255]⟩, ⟨#[98]⟩]
def rightB (s : ByteArray) : Bool := match repriseref1_All.f 60 (bytesOf s) with
  | some (a, b) => if b.length = 0 then (repriseref1_Text.f 60 a).isSome else true
  | none => false
set_option maxRecDepth 100000 in
theorem rightB_all : nine.all rightB = true := by decide +kernel
theorem nine_small : nine.all (fun s => decide (s.size ≤ 100)) = true := by decide +kernel
theorem small_of {h : List ByteArray} (h1 : h.length ≤ 1000) (h2 : ∀ s ∈ h, s ∈ nine) : Small h :=
  ⟨h1, fun s hs => of_decide_eq_true (List.all_eq_true.1 nine_small s (h2 s hs))⟩
theorem right_f (s : ByteArray) (hs : s ∈ nine) (k : Nat) (hk : 60 ≤ k) : ∃ b, repriseref11_HistRight.f k s = some b := by
  have h := List.all_eq_true.1 rightB_all s hs
  have hz : s.size ≤ 100 := of_decide_eq_true (List.all_eq_true.1 nine_small s hs)
  have : ∃ b, repriseref11_HistRight.f 60 s = some b := by
    unfold repriseref11_HistRight.f repriseref1_Runes.f
    rw [if_pos (by omega)]
    unfold rightB at h
    cases ha : repriseref1_All.f 60 (bytesOf s) with
    | none => rw [ha] at h; cases h
    | some ab =>
      obtain ⟨a, b⟩ := ab
      rw [ha] at h
      rw [Option.bind_some]
      simp only at h ⊢
      by_cases hb : b.length = 0
      · rw [if_pos hb] at h
        rw [if_pos (show (b.length : Int) = 0 by omega)]
        cases ht : repriseref1_Text.f 60 a with
        | none => rw [ht] at h; cases h
        | some t =>
          rw [Option.bind_some, Option.bind_some]
          split
          · exact ⟨_, rfl⟩
          · exact ⟨_, rfl⟩
      · rw [if_neg (show ¬ (b.length : Int) = 0 by omega), Option.bind_some]
        exact ⟨_, rfl⟩
  obtain ⟨b, hb⟩ := this
  exact ⟨b, at_rounds (repriseref11_HistRight.mono s) hk hb⟩
theorem nine_get (z : Int) (h0 : 0 ≤ z) (h1 : z < 9) : rdOf ByteArray.empty nine z ∈ nine := by
  unfold rdOf
  have hl : z.toNat < nine.length := by show z.toNat < 9; omega
  rw [List.getD_eq_getElem?_getD, List.getElem?_eq_getElem hl]
  exact List.getElem_mem hl
theorem hist_l0 (l : List Int) (hl : l.length ≤ 1000) (hb : ∀ x ∈ l, 0 ≤ x) (d : Nat) : ∀ (k i : Nat) (acc : List ByteArray), i + d = l.length → d < k → acc.length = i → (∀ s ∈ acc, s ∈ nine) →
    ∃ r, repriseseat_Hist.l0 k l acc (i : Int) = some r ∧ r.length = l.length ∧ ∀ s ∈ r, s ∈ nine := by
  induction d with
  | zero =>
    intro k i acc hi hk ha hr
    obtain ⟨k, rfl⟩ : ∃ m, k = m + 1 := ⟨k - 1, by omega⟩
    refine ⟨acc, ?_, by omega, hr⟩
    rw [repriseseat_Hist.l0, if_neg (by omega)]
  | succ d ih =>
    intro k i acc hi hk ha hr
    obtain ⟨k, rfl⟩ : ∃ m, k = m + 1 := ⟨k - 1, by omega⟩
    have hx : 0 ≤ rd l (i : Int) := by
      unfold rd
      have hlt : ((i : Int)).toNat < l.length := by omega
      rw [List.getD_eq_getElem?_getD, List.getElem?_eq_getElem hlt]
      exact hb _ (List.getElem_mem hlt)
    have ht0 : 0 ≤ Int.tmod (rd l (i : Int)) 9 := Int.tmod_nonneg _ hx
    have ht1 : Int.tmod (rd l (i : Int)) 9 < 9 := Int.tmod_lt_of_pos _ (by decide)
    have e2 : wrap64 ((i : Int) + 1) = ((i + 1 : Nat) : Int) := (w64_in _ (by omega)).trans (by omega)
    rw [repriseseat_Hist.l0, if_pos (show (i : Int) < (l.length : Int) by omega), Option.bind_some, if_pos (show (0 : Int) ≤ (i : Int) by omega), if_pos ht0, if_pos (show Int.tmod (rd l (i : Int)) 9 < ((([⟨#[102, 111, 111]⟩, ⟨#[102, 111, 111, 32, 98, 97, 114]⟩, ⟨#[98, 97, 114]⟩, ⟨#[]⟩, ⟨#[120, 32, 121, 32, 122]⟩, ⟨#[195, 169, 230, 188, 162]⟩, ⟨#[102, 111, 111]⟩, ⟨#[97, 255]⟩, ⟨#[98]⟩] : List ByteArray).length : Nat) : Int) from ht1), if_pos (show acc.length < 8796093022208 by omega), e2]
    refine ih k (i + 1) _ (by omega) (by omega) (by rw [List.length_append, List.length_singleton, ha]) ?_
    intro s hs
    rcases List.mem_append.1 hs with hs | hs
    · exact hr s hs
    · rw [List.mem_singleton.1 hs]
      exact nine_get _ ht0 ht1
theorem hist_f (l : List Int) (hl : l.length ≤ 1000) (hb : ∀ x ∈ l, 0 ≤ x) (k : Nat) (hk : l.length < k) : ∃ r, repriseseat_Hist.f k l = some r ∧ r.length = l.length ∧ ∀ s ∈ r, s ∈ nine :=
  hist_l0 l hl hb l.length k 0 [] (by omega) hk rfl (fun s hs => by cases hs)
theorem clip_l0 (l : List ByteArray) (hl : l.length ≤ 1000) (hb : ∀ s ∈ l, s ∈ nine) (d : Nat) : ∀ (k i : Nat) (acc : List ByteArray), i + d = l.length → d + 60 < k → acc.length ≤ i → (∀ s ∈ acc, s ∈ nine) →
    ∃ r, repriseref11_Clip.l0 k l acc (i : Int) = some r ∧ r.length ≤ l.length ∧ ∀ s ∈ r, s ∈ nine := by
  induction d with
  | zero =>
    intro k i acc hi hk ha hr
    obtain ⟨k, rfl⟩ : ∃ m, k = m + 1 := ⟨k - 1, by omega⟩
    have e1 : wrap64 ((acc.length : Int) - 10000) = (acc.length : Int) - 10000 := w64_in _ (by omega)
    have e2 : mx ((acc.length : Int) - 10000) 0 = 0 := by unfold mx; rw [if_pos (by omega)]
    refine ⟨acc, ?_, by omega, hr⟩
    rw [repriseref11_Clip.l0, if_neg (by omega), e1, e2, if_pos (by decide), if_pos (by omega)]
    rfl
  | succ d ih =>
    intro k i acc hi hk ha hr
    obtain ⟨k, rfl⟩ : ∃ m, k = m + 1 := ⟨k - 1, by omega⟩
    have hm : rdOf ByteArray.empty l (i : Int) ∈ l := by
      unfold rdOf
      have hlt : ((i : Int)).toNat < l.length := by omega
      rw [List.getD_eq_getElem?_getD, List.getElem?_eq_getElem hlt]
      exact List.getElem_mem hlt
    have e2 : wrap64 ((i : Int) + 1) = ((i + 1 : Nat) : Int) := (w64_in _ (by omega)).trans (by omega)
    rw [repriseref11_Clip.l0, if_pos (show (i : Int) < (l.length : Int) by omega), if_pos (show (0 : Int) ≤ (i : Int) by omega), e2]
    by_cases hn : (rdOf ByteArray.empty l (i : Int)).toList = ([] : List UInt8)
    · rw [if_pos hn]
      exact ih k (i + 1) acc (by omega) (by omega) (by omega) hr
    · rw [if_neg hn]
      obtain ⟨b, hbb⟩ := right_f _ (hb _ hm) k (by omega)
      rw [hbb, Option.bind_some]
      cases b with
      | false =>
        rw [if_neg (by decide)]
        exact ih k (i + 1) acc (by omega) (by omega) (by omega) hr
      | true =>
        rw [if_pos rfl, if_pos (show acc.length < 8796093022208 by omega)]
        refine ih k (i + 1) _ (by omega) (by omega) (by rw [List.length_append, List.length_singleton]; omega) ?_
        intro s hs
        rcases List.mem_append.1 hs with hs | hs
        · exact hr s hs
        · rw [List.mem_singleton.1 hs]
          exact hb _ hm
theorem clip_f (l : List ByteArray) (hl : l.length ≤ 1000) (hb : ∀ s ∈ l, s ∈ nine) (k : Nat) (hk : l.length + 60 < k) : ∃ r, repriseref11_Clip.f k l = some r ∧ r.length ≤ l.length ∧ ∀ s ∈ r, s ∈ nine :=
  clip_l0 l hl hb l.length k 0 [] (by omega) hk (by simp) (fun s hs => by cases hs)
end Go.Proofs.Ytoaeibhicbgknaa.QSearchPlays
