/- The document's at, Place and Text told by the library's index. -/
import Derived.Test.YtoaeibhicbgknaaSearchHistSearchFinds
namespace Go.Proofs.Ytoaeibhicbgknaa.QSearchFinds
open Go.RowKit Go.Proofs.YtoaeibhicbgknaaW.PrintWords Go.Proofs.YtoaeibhicbgknaaW.PrintLast Go.Proofs.YtoaeibhicbgknaaW.PrintMore
theorem cut_eq (s p : ByteArray) (i : Nat) : ((s.extract i (i + p.size)).toList = p.toList) ↔ Lib.occAt s.data.toList p.data.toList i = true := by
  rw [ByteArray.toList_eq, ByteArray.toList_eq, ByteArray.data_extract, Array.toList_extract, List.extract_eq_take_drop, Nat.add_sub_cancel_left]
  unfold Lib.occAt
  rw [List.isPrefixOf_iff_prefix, List.prefix_iff_eq_take]
  have : p.size = p.data.toList.length := rfl
  rw [← this]
  exact eq_comm
theorem at_l0 (s p : ByteArray) (hs : s.size ≤ 1000) (hp : p.size ≤ 1000000) (d : Nat) : ∀ (k i : Nat), i + d = s.size + 1 → d < k → (∀ j, j < i → Lib.occAt s.data.toList p.data.toList j = false) →
    repriseref11_at.l0 k s p (i : Int) = some (Lib.index s.data.toList p.data.toList) := by
  have hsl : s.data.toList.length = s.size := rfl
  have hpl : p.data.toList.length = p.size := rfl
  have none_of : ∀ i : Nat, s.size < i + p.size → (∀ j, j < i → Lib.occAt s.data.toList p.data.toList j = false) → Lib.index s.data.toList p.data.toList = -1 := by
    intro i hr hn
    refine Lib.index_none fun j hj => ?_
    by_cases hji : j < i
    · exact hn j hji
    · cases ho : Lib.occAt s.data.toList p.data.toList j with
      | false => rfl
      | true =>
        exfalso
        rcases Lib.occAt_room ho with h' | h'
        · rw [hsl, hpl] at h'; omega
        · rw [h'] at hpl
          rw [hsl] at hj
          simp only [List.length_nil] at hpl
          omega
  induction d with
  | zero =>
    intro k i hi hk hn
    obtain ⟨k, rfl⟩ : ∃ m, k = m + 1 := ⟨k - 1, by omega⟩
    have e1 : wrap64 ((i : Int) + (p.size : Int)) = (i : Int) + (p.size : Int) := w64_in _ (by omega)
    rw [repriseref11_at.l0, e1, if_neg (by omega), none_of i (by omega) hn]
  | succ d ih =>
    intro k i hi hk hn
    obtain ⟨k, rfl⟩ : ∃ m, k = m + 1 := ⟨k - 1, by omega⟩
    have e1 : wrap64 ((i : Int) + (p.size : Int)) = (i : Int) + (p.size : Int) := w64_in _ (by omega)
    have e2 : wrap64 ((i : Int) + 1) = ((i + 1 : Nat) : Int) := (w64_in _ (by omega)).trans (by omega)
    have e3 : ((i : Int) + (p.size : Int)).toNat = i + p.size := by omega
    have e4 : ((i : Int)).toNat = i := by omega
    rw [repriseref11_at.l0, e1]
    by_cases hr : (i : Int) + (p.size : Int) ≤ (s.size : Int)
    · rw [if_pos hr, if_pos (by omega), if_pos (by omega), e3, e4, e2]
      by_cases hc : Lib.occAt s.data.toList p.data.toList i = true
      · rw [if_pos ((cut_eq s p i).2 hc), Lib.index_first (by omega) hc hn]
      · rw [if_neg (fun h => hc ((cut_eq s p i).1 h))]
        refine ih k (i + 1) (by omega) (by omega) fun j hj => ?_
        by_cases hji : j = i
        · rw [hji]; exact Bool.eq_false_iff.mpr hc
        · exact hn j (by omega)
    · rw [if_neg hr, none_of i (by omega) hn]
theorem at_f (s p : ByteArray) (hs : s.size ≤ 1000) (hp : p.size ≤ 1000000) (k : Nat) (hk : s.size + 1 < k) : repriseref11_at.f k s p = some (Lib.index s.data.toList p.data.toList) :=
  at_l0 s p hs hp (s.size + 1) k 0 (by omega) hk (fun j hj => by omega)
def cutB (s : ByteArray) : Bool := [0, 1, 2, 3, 4, 5, 6, 7].all fun n => (repriseref1_All.f 60 (bytesOf (s.extract 0 n))).isSome
theorem cutB_all : nine.all (fun s => cutB s && decide (s.size ≤ 7)) = true := by decide +kernel
theorem place_f (s p : ByteArray) (hs : s ∈ nine) (hp : p.size ≤ 1000000) (k : Nat) (hk : 200 < k) : ∃ v, repriseref11_Place.f k s p = some v ∧ (v ≥ 0 ↔ Lib.contains s.data.toList p.data.toList = true) := by
  have h := List.all_eq_true.1 cutB_all s hs
  rw [Bool.and_eq_true] at h
  have hz : s.size ≤ 7 := of_decide_eq_true h.2
  have h := h.1
  have hsl : s.data.toList.length = s.size := rfl
  unfold repriseref11_Place.f Lib.contains
  rw [at_f s p (by omega) hp k (by omega), Option.bind_some]
  have hge := Lib.index_ge s.data.toList p.data.toList
  have hroom := Lib.index_room s.data.toList p.data.toList
  generalize Lib.index s.data.toList p.data.toList = z at *
  by_cases hn : z < 0
  · rw [if_pos hn]
    refine ⟨-1, rfl, ?_⟩
    rw [decide_eq_true_eq]
    omega
  · have hroom := hroom (by omega)
    rw [hsl] at hroom
    have hsz : (s.extract 0 z.toNat).size ≤ 9223372036854775807 := by
      rw [ByteArray.size_extract]; omega
    rw [if_neg hn, if_pos (by omega), if_pos (by omega), if_pos hsz]
    have hm : z.toNat ∈ [0, 1, 2, 3, 4, 5, 6, 7] := by
      have : z.toNat ≤ 7 := by omega
      generalize z.toNat = m at this
      have : m = 0 ∨ m = 1 ∨ m = 2 ∨ m = 3 ∨ m = 4 ∨ m = 5 ∨ m = 6 ∨ m = 7 := by omega
      simpa using this
    have h1 := List.all_eq_true.1 h _ hm
    cases ha : repriseref1_All.f 60 (bytesOf (s.extract 0 z.toNat)) with
    | none => rw [ha] at h1; cases h1
    | some ab =>
      rw [at_rounds (repriseref1_All.mono (bytesOf (s.extract 0 z.toNat))) (by omega : 60 ≤ k) ha, Option.bind_some]
      refine ⟨_, rfl, ?_⟩
      rw [decide_eq_true_eq]
      omega
def runes5 : List Int := [102, 111, 98, 120, 233]
def textB (r : Int) : Bool := match repriseref1_Text.f 20 [r] with
  | some t => decide (t.data.toList = (runesBytes [r]).data.toList) && decide (t.size ≤ 10) && decide (t.data.toList ≠ [])
  | none => false
theorem textB_all : runes5.all textB = true := by decide +kernel
theorem text_one (r : Int) (hr : r ∈ runes5) (k : Nat) (hk : 20 ≤ k) : ∃ t, repriseref1_Text.f k [r] = some t ∧ t.data.toList = (runesBytes [r]).data.toList ∧ t.size ≤ 10 ∧ t.data.toList ≠ [] := by
  have h := List.all_eq_true.1 textB_all r hr
  unfold textB at h
  cases ht : repriseref1_Text.f 20 [r] with
  | none => rw [ht] at h; cases h
  | some t =>
    rw [ht] at h
    simp only [Bool.and_eq_true, decide_eq_true_eq] at h
    exact ⟨t, at_rounds (repriseref1_Text.mono [r]) hk ht, h.1.1, h.1.2, h.2⟩
end Go.Proofs.Ytoaeibhicbgknaa.QSearchFinds
