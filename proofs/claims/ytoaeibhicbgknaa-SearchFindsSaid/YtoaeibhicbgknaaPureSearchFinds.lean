import Derived.Test.YtoaeibhicbgknaaSearchAtSearchFinds
namespace Go.Proofs.Ytoaeibhicbgknaa.QSearchFinds
open Go.RowKit Go.Proofs.YtoaeibhicbgknaaW.PrintWords Go.Proofs.YtoaeibhicbgknaaW.PrintLast Go.Proofs.YtoaeibhicbgknaaW.PrintMore
theorem finds_l0 (h : List ByteArray) (hl : h.length ≤ 30) (hn : ∀ s ∈ h, s ∈ nine) (r : Int) (hr : r ∈ runes5) (on back : Bool) (pat : List Int) (at_ : Int) (fail : Bool) (d : Nat)
    (hend : ∀ k, repriselaw16_SearchFinds.l0 (k + 1) h r (scanD h (runesBytes [r]).data.toList h.length) (h.length : Int) on back pat at_ fail = some true) : ∀ (k i : Nat), i + d = h.length → d + 300 < k →
    repriselaw16_SearchFinds.l0 k h r (scanD h (runesBytes [r]).data.toList i) (i : Int) on back pat at_ fail = some true := by
  induction d with
  | zero =>
    intro k i hi hk
    obtain ⟨k, rfl⟩ : ∃ m, k = m + 1 := ⟨k - 1, by omega⟩
    rw [show i = h.length by omega]
    exact hend k
  | succ d ih =>
    intro k i hi hk
    obtain ⟨k, rfl⟩ : ∃ m, k = m + 1 := ⟨k - 1, by omega⟩
    obtain ⟨t, ht, hte, htz, _⟩ := text_one r hr k (by omega)
    have hm : h.getD i ByteArray.empty ∈ h := by
      have hlt : i < h.length := by omega
      rw [List.getD_eq_getElem?_getD, List.getElem?_eq_getElem hlt]
      exact List.getElem_mem hlt
    obtain ⟨v, hv, hiff⟩ := place_f _ t (hn _ hm) (by omega) k (by omega)
    have e2 : wrap64 ((i : Int) + 1) = ((i + 1 : Nat) : Int) := (w64_in _ (by omega)).trans (by omega)
    have ih1 := ih k (i + 1) (by omega) (by omega)
    rw [repriselaw16_SearchFinds.l0, if_pos (show (i : Int) < (h.length : Int) by omega), if_pos (show (0 : Int) ≤ (i : Int) by omega), ht, Option.bind_some]
    unfold rdOf
    rw [show ((i : Int)).toNat = i by omega, hv, Option.bind_some, e2]
    rw [hte] at hiff
    rw [scanD] at ih1
    by_cases hc : Lib.contains (h.getD i ByteArray.empty).data.toList (runesBytes [r]).data.toList = true
    · rw [if_pos (hiff.2 hc)]
      rwa [if_pos hc] at ih1
    · rw [if_neg (fun q => hc (hiff.1 q))]
      rwa [if_neg hc] at ih1
end Go.Proofs.Ytoaeibhicbgknaa.QSearchFinds
namespace Go.Proofs.Ytoaeibhicbgknaa.Pure
open Go.RowKit Go.Proofs.Ytoaeibhicbgknaa.QSearchFinds Go.Proofs.YtoaeibhicbgknaaW.PrintWords Go.Proofs.YtoaeibhicbgknaaW.PrintLast
theorem rd5_mem (z : Int) (h0 : 0 ≤ z) (h1 : z < 5) : rd [102, 111, 98, 120, 233] z ∈ runes5 := by
  have : z = 0 ∨ z = 1 ∨ z = 2 ∨ z = 3 ∨ z = 4 := by omega
  rcases this with rfl | rfl | rfl | rfl | rfl <;> decide
theorem SearchFinds : repriselaw16_SearchFinds.Pure := by
  intro l a back _ _ hl ha
  refine ⟨1000, ?_⟩
  unfold repriselaw16_SearchFinds.f
  rw [known_t 1000 (by decide), Option.bind_some, if_pos rfl]
  by_cases hlen : (l.length : Int) > 30
  · rw [if_pos hlen]
  · have hb : ∀ x ∈ l, 0 ≤ x := by
      intro x hx
      have := hl x hx
      simp [Lit.wf, IntKind.min, IntKind.max, IntKind.signed, IntKind.bits] at this
      omega
    have hA : 0 ≤ a := by
      simp [Lit.wf, IntKind.min, IntKind.max, IntKind.signed, IntKind.bits] at ha
      omega
    obtain ⟨h0, hh0, hlen0, hn0⟩ := hist_f l (by omega) hb 1000 (by omega)
    obtain ⟨h, hh, hlenh, hn⟩ := clip_f h0 (by omega) hn0 1000 (by omega)
    have ht0 : 0 ≤ Int.tmod a 5 := Int.tmod_nonneg _ hA
    have ht1 : Int.tmod a 5 < 5 := Int.tmod_lt_of_pos _ (by decide)
    have hr := rd5_mem _ ht0 ht1
    have H : Small h := small_of (by omega) hn
    rw [if_neg hlen, hh0, Option.bind_some, hh, Option.bind_some, Option.bind_some, if_pos ht0, if_pos (show Int.tmod a 5 < (([102, 111, 98, 120, 233] : List Int).length : Int) from ht1)]
    unfold search_Begin.f
    rw [Option.bind_some]
    show (search_Type.f 1000 h true back [] (h.length : Int) false (rd [102, 111, 98, 120, 233] (Int.tmod a 5))).bind _ = _
    generalize rd [102, 111, 98, 120, 233] (Int.tmod a 5) = r at *
    rw [type_f H true back [] (h.length : Int) false r (by decide) 1000 (by omega), Option.bind_some]
    obtain ⟨t, _, hte, _, htn⟩ := text_one r hr 1000 (by omega)
    have hne : (runesBytes [r]).data.toList ≠ [] := by rw [← hte]; exact htn
    have eat : atS h (h.length : Int) = (h.length : Int) := by
      unfold atS mn mx
      rw [if_neg (show ¬ (h.length : Int) < 0 by omega), if_neg (show ¬ (h.length : Int) < (h.length : Int) by omega)]
    have ety : typeS h true back [] (h.length : Int) r = lookS h true back [r] (h.length : Int) (h.length : Int) := by
      unfold typeS; rw [eat]; rfl
    rw [ety]
    have hsc := scanD_range h (runesBytes [r]).data.toList h.length
    cases back with
    | false =>
      rw [if_neg (by decide)]
      have ef : findS h (runesBytes [r]).data.toList (h.length : Int) false = -1 := by
        unfold findS
        rw [if_neg hne, if_neg (by decide), show h.length - ((h.length : Int)).toNat = 0 by omega]
        rfl
      have el : lookS h true false [r] (h.length : Int) (h.length : Int) = (true, false, [r], (h.length : Int), true) := by
        unfold lookS
        rw [if_pos (show (h.length : Int) ≥ 0 by omega), ef, if_pos (by decide)]
      rw [el]
      simp
    | true =>
      rw [if_pos rfl]
      have ef : findS h (runesBytes [r]).data.toList (h.length : Int) true = scanD h (runesBytes [r]).data.toList h.length := by
        unfold findS
        rw [if_neg hne, if_pos rfl, if_pos (show (h.length : Int) ≥ (h.length : Int) by omega)]
      unfold lookS
      rw [if_pos (show (h.length : Int) ≥ 0 by omega), ef]
      refine finds_l0 h (by omega) hn r hr _ _ _ _ _ h.length ?_ 1000 0 (by omega) (by omega)
      intro k
      rw [repriselaw16_SearchFinds.l0, if_neg (by omega)]
      generalize scanD h (runesBytes [r]).data.toList h.length = z at *
      by_cases hz : z < 0
      · rw [if_pos hz, if_pos hz]
        simp
      · rw [if_neg hz, if_neg hz]
        simp [rd]
end Go.Proofs.Ytoaeibhicbgknaa.Pure
