/- The document's at, Place and Text told by the library's index. -/
import Derived.Test.YtoaeibhicbgknaaSearchHistSearchPlays
namespace Go.Proofs.Ytoaeibhicbgknaa.QSearchPlays
open Go.RowKit Go.Proofs.YtoaeibhicbgknaaW.PrintWords Go.Proofs.YtoaeibhicbgknaaW.PrintLast Go.Proofs.YtoaeibhicbgknaaW.PrintMore
theorem cut_eq (s p : ByteArray) (i : Nat) : ((s.extract i (i + p.size)).toList = p.toList) ↔ Lib.occAt s.data.toList p.data.toList i = true := by
  rw [ByteArray.toList_eq, ByteArray.toList_eq, ByteArray.data_extract, Array.toList_extract, List.extract_eq_take_drop, Nat.add_sub_cancel_left]
  unfold Lib.occAt
  rw [List.isPrefixOf_iff_prefix, List.prefix_iff_eq_take]
  have : p.size = p.data.toList.length := rfl
  rw [← this]
  exact eq_comm
theorem at_l0 (s p : ByteArray) (hs : s.size ≤ 1000) (hp : p.size ≤ 1000000) (d : Nat) : ∀ (k i : Nat), i + d = s.size + 1 → d < k → (∀ j, j < i → Lib.occAt s.data.toList p.data.toList j = false) →
    repriseref11_at.l0 k s p (i : Int) = some (Lib.index s.data.toList p.data.toList) := by
  have hsl : s.data.toList.length = s.size := rfl
  have hpl : p.data.toList.length = p.size := rfl
  have none_of : ∀ i : Nat, s.size < i + p.size → (∀ j, j < i → Lib.occAt s.data.toList p.data.toList j = false) → Lib.index s.data.toList p.data.toList = -1 := by
    intro i hr hn
    refine Lib.index_none fun j hj => ?_
    by_cases hji : j < i
    · exact hn j hji
    · cases ho : Lib.occAt s.data.toList p.data.toList j with
      | false => rfl
      | true =>
        exfalso
        rcases Lib.occAt_room ho with h' | h'
        · rw [hsl, hpl] at h'; omega
        · rw [h'] at hpl
          rw [hsl] at hj
          simp only [List.length_nil] at hpl
          omega
  induction d with
  | zero =>
    intro k i hi hk hn
    obtain ⟨k, rfl⟩ : ∃ m, k = m + 1 := ⟨k - 1, by omega⟩
    have e1 : wrap64 ((i : Int) + (p.size : Int)) = (i : Int) + (p.size : Int) := w64_in _ (by omega)
    rw [repriseref11_at.l0, e1, if_neg (by omega), none_of i (by omega) hn]
  | succ d ih =>
    intro k i hi hk hn
    obtain ⟨k, rfl⟩ : ∃ m, k = m + 1 := ⟨k - 1, by omega⟩
    have e1 : wrap64 ((i : Int) + (p.size : Int)) = (i : Int) + (p.size : Int) := w64_in _ (by omega)
    have e2 : wrap64 ((i : Int) + 1) = ((i + 1 : Nat) : Int) := (w64_in _ (by omega)).trans (by omega)
    have e3 : ((i : Int) + (p.size : Int)).toNat = i + p.size := by omega
    have e4 : ((i : Int)).toNat = i := by omega
    rw [repriseref11_at.l0, e1]
    by_cases hr : (i : Int) + (p.size : Int) ≤ (s.size : Int)
    · rw [if_pos hr, if_pos (by omega), if_pos (by omega), e3, e4, e2]
      by_cases hc : Lib.occAt s.data.toList p.data.toList i = true
      · rw [if_pos ((cut_eq s p i).2 hc), Lib.index_first (by omega) hc hn]
      · rw [if_neg (fun h => hc ((cut_eq s p i).1 h))]
        refine ih k (i + 1) (by omega) (by omega) fun j hj => ?_
        by_cases hji : j = i
        · rw [hji]; exact Bool.eq_false_iff.mpr hc
        · exact hn j (by omega)
    · rw [if_neg hr, none_of i (by omega) hn]
theorem at_f (s p : ByteArray) (hs : s.size ≤ 1000) (hp : p.size ≤ 1000000) (k : Nat) (hk : s.size + 1 < k) : repriseref11_at.f k s p = some (Lib.index s.data.toList p.data.toList) :=
  at_l0 s p hs hp (s.size + 1) k 0 (by omega) hk (fun j hj => by omega)
end Go.Proofs.Ytoaeibhicbgknaa.QSearchPlays
