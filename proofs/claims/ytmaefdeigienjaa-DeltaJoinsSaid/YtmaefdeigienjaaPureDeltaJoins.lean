/- DeltaJoins: two deltas, one behind the other, come to both; for every choice of the law. -/
import Derived.Test.YtmaefdeigienjaaDeltaTwistDeltaJoins
namespace Go.Proofs.Ytmaefdeigienjaa.Pure
open Go.RowKit Go.Proofs.Ytmaefdeigienjaa.QDeltaJoins Go.Proofs.YtmaefdeigienjaaW.PrintWords Go.Proofs.YtmaefdeigienjaaW.PrintLast
theorem str_app (a b : List Int) : strOfNums (a ++ b) = strOfNums a ++ strOfNums b := by
  apply ByteArray.ext
  apply Array.toList_inj.1
  simp [strOfNums, ByteArray.data_append]
theorem DeltaJoins : repriselaw5_DeltaJoins.Pure := by
  unfold repriselaw5_DeltaJoins.Pure
  intro l0 l1 l2 g1 g2 g3 g4 g5 g6 g7 g8 g9
  have hb : ∀ x ∈ l0, 0 ≤ x ∧ x < 256 := fun x hx => DeltaM.wf8_iff (g3 x hx)
  have hw1 : ∀ x ∈ l1, 0 ≤ x ∧ x < 65536 := fun x hx => wf16_iff (g6 x hx)
  have hw2 : ∀ x ∈ l2, 0 ≤ x ∧ x < 65536 := fun x hx => wf16_iff (g9 x hx)
  have hk : repriselaw5_known.f = some true := rfl
  refine ⟨5001, ?_⟩
  unfold repriselaw5_DeltaJoins.f
  rw [hk, Option.bind_some, if_pos rfl]
  by_cases c1 : (l0.length : Int) > 60
  · rw [if_pos c1, repriselaw5_DeltaJoins.j0, if_pos rfl]
  rw [if_neg c1]
  by_cases c2 : (l1.length : Int) > 15
  · rw [if_pos c2, repriselaw5_DeltaJoins.j0, if_pos rfl]
  rw [if_neg c2]
  by_cases c3 : (l2.length : Int) > 15
  · rw [decide_eq_true c3, repriselaw5_DeltaJoins.j0, if_pos rfl]
  rw [decide_eq_false c3, repriselaw5_DeltaJoins.j0, if_neg (by decide)]
  obtain ⟨a, a1, a2, a3⟩ := twist_f l0 l1 (by omega) hb (by omega) hw1
  obtain ⟨b, b1, b2, b3⟩ := twist_f l0 l2 (by omega) hb (by omega) hw2
  rw [a1 5000 (by omega), Option.bind_some, b1 5000 (by omega), Option.bind_some, make_f l0 a (by omega) (by omega) hb a3, Option.bind_some, make_f l0 b (by omega) (by omega) hb b3, Option.bind_some]
  obtain ⟨ps, p1, p2, p3⟩ := DeltaM.make_parts l0 a a3
  obtain ⟨qs, q1, q2, q3⟩ := DeltaM.make_parts l0 b b3
  have hpq : ∀ p ∈ ps ++ qs, DeltaM.pok l0 p := fun p hp => (List.mem_append.1 hp).elim (p3 p) (q3 p)
  have hv : (ps ++ qs).flatMap (DeltaM.pval l0) = a ++ b := by rw [List.flatMap_append, p2, q2]
  have hy : DeltaM.make l0 a ++ DeltaM.make l0 b = (ps ++ qs).flatMap DeltaM.pbytes := by rw [List.flatMap_append, p1, q1]
  have n1 := DeltaM.parts_blen l0 (by omega) ps p3 (by rw [p2]; omega)
  have n2 := DeltaM.parts_blen l0 (by omega) qs q3 (by rw [q2]; omega)
  have n3 : (ps ++ qs).length ≤ a.length + b.length := by
    have h_ := DeltaM.parts_len l0 (ps ++ qs) hpq
    rw [hv, show (a ++ b).length = a.length + b.length from List.length_append] at h_
    exact h_
  rw [p2, ← p1] at n1
  rw [q2, ← q1] at n2
  have hap : ∀ most : Int, -9223372036854775808 ≤ most → most < 9223372036854775808 → delta_Apply.f 5000 l0 ((ps ++ qs).flatMap DeltaM.pbytes) most = if ((a ++ b).length : Int) ≤ max most 0 then some (a ++ b, 0) else some ([], 25) := fun most m1 m2 => by
    have := apply_parts l0 (by omega) [] (by simp) (by simp) most m1 m2 (5000 - 2 * (ps ++ qs).length) (by omega) (ps ++ qs) [] hpq (by rw [hv, List.length_append]; omega) (by rw [hv, List.length_append]; simp only [List.length_nil]; omega) (by simp only [List.length_nil]; omega)
    rw [show 5000 - 2 * (ps ++ qs).length + 2 * (ps ++ qs).length = 5000 by omega, List.append_nil, hv] at this
    unfold delta_Apply.f
    rw [this]
    obtain ⟨j, hj⟩ : ∃ j, 5000 - 2 * (ps ++ qs).length = j + 1 := ⟨5000 - 2 * (ps ++ qs).length - 1, by omega⟩
    rw [hj, apply_end]
    simp
  have w1 : wrap64 ((a.length : Int) + (b.length : Int)) = ((a ++ b).length : Int) := by rw [List.length_append, Zig.w64_id _ (by omega) (by omega)]; omega
  have hab : (a ++ b).length ≤ 360 := by rw [List.length_append]; omega
  have w2 : wrap64 (((a ++ b).length : Int) - 1) = ((a ++ b).length : Int) - 1 := Zig.w64_id _ (by omega) (by omega)
  rw [if_pos (by omega), Option.bind_some, hy, w1, w2, hap _ (by omega) (by omega), if_pos (by omega), Option.bind_some, hap _ (by omega) (by omega)]
  have hs : (strOfNums a).size + (strOfNums b).size ≤ 9223372036854775807 := by rw [strOfNums_size, strOfNums_size]; omega
  by_cases h0 : (a ++ b).length = 0
  · rw [if_pos (by omega), Option.bind_some]
    dsimp only
    rw [if_pos rfl, if_pos hs, str_app, if_pos rfl, if_neg (by decide), h0]
    rfl
  · rw [if_neg (by omega), Option.bind_some]
    dsimp only
    rw [if_pos rfl, if_pos hs, str_app, if_pos rfl, if_pos rfl]
end Go.Proofs.Ytmaefdeigienjaa.Pure
