import Derived.Test.YtoaeibhicbgknaaSearchHistSearchRubs
namespace Go.Proofs.Ytoaeibhicbgknaa.QSearchRubs
open Go.RowKit Go.Proofs.YtoaeibhicbgknaaW.PrintWords Go.Proofs.YtoaeibhicbgknaaW.PrintLast Go.Proofs.YtoaeibhicbgknaaW.PrintMore
theorem typeS_eq (h : List ByteArray) (on back : Bool) (pat : List Int) (i r : Int) : ∃ a f, typeS h on back pat i r = (on, back, pat ++ [r], a, f) := by
  unfold typeS lookS
  split
  · split
    · exact ⟨_, _, rfl⟩
    · exact ⟨_, _, rfl⟩
  · exact ⟨_, _, rfl⟩
theorem same_l0 (l : List Int) (hl : l.length ≤ 1000) (d : Nat) : ∀ (k i : Nat), i + d = l.length → d < k → reprisehelp_Runes.l0 k l l (i : Int) = some true := by
  induction d with
  | zero =>
    intro k i hi hk
    obtain ⟨k, rfl⟩ : ∃ m, k = m + 1 := ⟨k - 1, by omega⟩
    rw [reprisehelp_Runes.l0, if_neg (by omega)]
  | succ d ih =>
    intro k i hi hk
    obtain ⟨k, rfl⟩ : ∃ m, k = m + 1 := ⟨k - 1, by omega⟩
    have e2 : wrap64 ((i : Int) + 1) = ((i + 1 : Nat) : Int) := (w64_in _ (by omega)).trans (by omega)
    rw [reprisehelp_Runes.l0, if_pos (show (i : Int) < (l.length : Int) by omega), if_pos (show (0 : Int) ≤ (i : Int) by omega), if_pos (show (i : Int) < (l.length : Int) by omega), if_pos rfl, e2]
    exact ih k (i + 1) (by omega) (by omega)
theorem same_f (l : List Int) (hl : l.length ≤ 1000) (k : Nat) (hk : l.length < k) : reprisehelp_Runes.f k l l = some true := by
  unfold reprisehelp_Runes.f
  rw [if_pos rfl]
  exact same_l0 l hl l.length k 0 (by omega) hk
theorem rubs_l1 (x1 : List Int) (hx : x1.length ≤ 20) (back b1 b2 b3 : Bool) (pat : List Int) (hp : pat.length = x1.length) (at_ : Int) (f1 : Bool) (b4 : Bool) (a5 : Int) (d : Nat) : ∀ (k i : Nat) (p : List Int) (f : Bool), i + d = x1.length + 2 → d + 100 < k → p.length = x1.length - i →
    repriselaw16_SearchRubs.l1 k x1 back (x1.length : Int) (i : Int) b1 b2 pat at_ f1 b4 back pat a5 false true b3 p at_ f = some true := by
  induction d with
  | zero =>
    intro k i p f hi hk hpl
    obtain ⟨k, rfl⟩ : ∃ m, k = m + 1 := ⟨k - 1, by omega⟩
    have e1 : wrap64 ((x1.length : Int) + 2) = (x1.length : Int) + 2 := w64_in _ (by omega)
    rw [repriselaw16_SearchRubs.l1, e1, if_neg (by omega), if_pos rfl, same_f pat (by omega) k (by omega), Option.bind_some, if_pos rfl, if_neg (by decide), if_pos (by simp), if_pos (by omega), if_pos rfl]
    simp
  | succ d ih =>
    intro k i p f hi hk hpl
    obtain ⟨k, rfl⟩ : ∃ m, k = m + 1 := ⟨k - 1, by omega⟩
    have e1 : wrap64 ((x1.length : Int) + 2) = (x1.length : Int) + 2 := w64_in _ (by omega)
    have e2 : wrap64 ((i : Int) + 1) = ((i + 1 : Nat) : Int) := (w64_in _ (by omega)).trans (by omega)
    rw [repriselaw16_SearchRubs.l1, e1, if_pos (by omega), rub_f true b3 p at_ f (by omega), Option.bind_some, e2]
    exact ih k (i + 1) _ false (by omega) (by omega) (by rw [List.length_take]; omega)
theorem rune_f (x : Int) (hx : 0 ≤ x) : ∃ r, repriseseat_Rune.f x = some r := by
  have ht0 : 0 ≤ Int.tmod x 20 := Int.tmod_nonneg _ hx
  have ht1 : Int.tmod x 20 < 20 := Int.tmod_lt_of_pos _ (by decide)
  unfold repriseseat_Rune.f
  rw [Option.bind_some, if_pos ht0, if_pos (show Int.tmod x 20 < (([97, 98, 32, 90, 48, 45, 233, 28450, 23383, 769, 8203, 1, 27, 127, 46, 99, 128512, 95, 65533, 100] : List Int).length : Int) from ht1)]
  exact ⟨_, rfl⟩
theorem rubs_l0 {h : List ByteArray} (H : Small h) (hl : h.length ≤ 30) (x1 : List Int) (hx : x1.length ≤ 20) (hb : ∀ x ∈ x1, 0 ≤ x) (back : Bool) (d : Nat) : ∀ (k i : Nat) (pat : List Int) (at_ : Int) (f : Bool), i + d = x1.length → d + 300 < k → pat.length = i →
    repriselaw16_SearchRubs.l0 k x1 back h (i : Int) true back pat at_ f = some true := by
  induction d with
  | zero =>
    intro k i pat at_ f hi hk hp
    obtain ⟨k, rfl⟩ : ∃ m, k = m + 1 := ⟨k - 1, by omega⟩
    obtain ⟨a, g, e⟩ := typeS_eq h true back pat at_ 113
    rw [repriselaw16_SearchRubs.l0, if_neg (by omega), type_f H true back pat at_ f 113 (by omega) k (by omega), e, Option.bind_some]
    show (search_Rub.f true back (pat ++ [113]) a g).bind _ = _
    rw [rub_f true back (pat ++ [113]) a g (by rw [List.length_append, List.length_singleton]; omega), Option.bind_some]
    have e3 : (pat ++ [113]).take ((pat ++ [113]).length - 1) = pat := by
      rw [List.length_append, List.length_singleton, Nat.add_sub_cancel, List.take_left]
    rw [e3, show (pat.length : Int) = (x1.length : Int) by omega]
    exact rubs_l1 x1 hx back true back back pat (by omega) at_ f true a (x1.length + 2) k 0 pat f (by omega) (by omega) (by omega)
  | succ d ih =>
    intro k i pat at_ f hi hk hp
    obtain ⟨k, rfl⟩ : ∃ m, k = m + 1 := ⟨k - 1, by omega⟩
    have e2 : wrap64 ((i : Int) + 1) = ((i + 1 : Nat) : Int) := (w64_in _ (by omega)).trans (by omega)
    have hxx : 0 ≤ rd x1 (i : Int) := by
      unfold rd
      have hlt : ((i : Int)).toNat < x1.length := by omega
      rw [List.getD_eq_getElem?_getD, List.getElem?_eq_getElem hlt]
      exact hb _ (List.getElem_mem hlt)
    obtain ⟨r, hr⟩ := rune_f _ hxx
    obtain ⟨a, g, e⟩ := typeS_eq h true back pat at_ r
    rw [repriselaw16_SearchRubs.l0, if_pos (show (i : Int) < (x1.length : Int) by omega), if_pos (show (0 : Int) ≤ (i : Int) by omega), hr, Option.bind_some, type_f H true back pat at_ f r (by omega) k (by omega), e, Option.bind_some, e2]
    exact ih k (i + 1) (pat ++ [r]) a g (by omega) (by omega) (by rw [List.length_append, List.length_singleton, hp])
end Go.Proofs.Ytoaeibhicbgknaa.QSearchRubs
namespace Go.Proofs.Ytoaeibhicbgknaa.Pure
open Go.RowKit Go.Proofs.Ytoaeibhicbgknaa.QSearchRubs Go.Proofs.YtoaeibhicbgknaaW.PrintWords Go.Proofs.YtoaeibhicbgknaaW.PrintLast
theorem nonneg_u8 {l : List Int} (hl : ∀ x ∈ l, (Lit.int .u8 x).wf = true) : ∀ x ∈ l, 0 ≤ x := by
  intro x hx
  have := hl x hx
  simp [Lit.wf, IntKind.min, IntKind.max, IntKind.signed, IntKind.bits] at this
  omega
theorem SearchRubs : repriselaw16_SearchRubs.Pure := by
  intro l x1 back _ _ hl _ _ hx1
  refine ⟨1000, ?_⟩
  unfold repriselaw16_SearchRubs.f
  rw [known_t 1000 (by decide), Option.bind_some, if_pos rfl]
  by_cases hlen : (l.length : Int) > 30
  · rw [if_pos hlen, repriselaw16_SearchRubs.j0, if_pos rfl]
  · rw [if_neg hlen, repriselaw16_SearchRubs.j0]
    by_cases hlen1 : (x1.length : Int) > 20
    · rw [decide_eq_true hlen1, if_pos rfl]
    · rw [decide_eq_false hlen1, if_neg (by decide)]
      obtain ⟨h0, hh0, hlen0, hn0⟩ := hist_f l (by omega) (nonneg_u8 hl) 999 (by omega)
      obtain ⟨h, hh, hlenh, hn⟩ := clip_f h0 (by omega) hn0 999 (by omega)
      have H : Small h := small_of (by omega) hn
      rw [hh0, Option.bind_some, hh, Option.bind_some]
      unfold search_Begin.f
      rw [Option.bind_some]
      exact rubs_l0 H (by omega) x1 (by omega) (nonneg_u8 hx1) back x1.length 999 0 [] (h.length : Int) false (by omega) (by omega) rfl
end Go.Proofs.Ytoaeibhicbgknaa.Pure
