/- DeltaBack: what is made comes back, and bytes that were there already cost little; for every choice of the law. -/
import Derived.Test.YtmaefdeigienjaaDeltaTwistDeltaBack
import Derived.Test.YtmaefdeigienjaaDeltaLen
namespace Go.Proofs.Ytmaefdeigienjaa.Pure
open Go.RowKit Go.Proofs.Ytmaefdeigienjaa.QDeltaBack Go.Proofs.YtmaefdeigienjaaW.PrintWords Go.Proofs.YtmaefdeigienjaaW.PrintLast
theorem back_apply (k : Nat) (hk : 5000 ≤ k) (old b : List Int) (ho : old.length ≤ 1000) (hl : b.length ≤ 1000) (hb : ∀ x ∈ b, 0 ≤ x ∧ x < 256) : delta_Apply.f k old (DeltaM.make old b) (b.length : Int) = some (b, 0) := by
  obtain ⟨ps, p1, p2, p3⟩ := DeltaM.make_parts old b hb
  have n3 := DeltaM.parts_len old ps p3
  rw [p2] at n3
  have := apply_parts old (by omega) [] (by simp) (by simp) (b.length : Int) (by omega) (by omega) (k - 2 * ps.length) (by omega) ps [] p3 (by rw [p2]; omega) (by rw [p2]; simp only [List.length_nil]; omega) (by simp only [List.length_nil]; omega)
  rw [show k - 2 * ps.length + 2 * ps.length = k by omega, List.append_nil, p2, ← p1] at this
  unfold delta_Apply.f
  rw [this]
  obtain ⟨j, hj⟩ : ∃ j, k - 2 * ps.length = j + 1 := ⟨k - 2 * ps.length - 1, by omega⟩
  rw [hj, apply_end, if_pos (by simp only [List.length_nil]; omega)]
  rfl
theorem back_w (n : Nat) (h : n ≤ 1000) : wrap64 ((n : Int) + 4) = n + 4 ∧ wrap64 ((n : Int) / 4) = ((n / 4 : Nat) : Int) ∧ wrap64 (((n / 4 : Nat) : Int) * 2) = ((n / 4 * 2 : Nat) : Int) ∧ wrap64 ((n : Int) + 4 + ((n / 4 * 2 : Nat) : Int)) = ((n + 4 + n / 4 * 2 : Nat) : Int) := by
  have hq : n / 4 ≤ 250 := by omega
  have e1 : (n : Int) / 4 = ((n / 4 : Nat) : Int) := by omega
  rw [e1]
  generalize n / 4 = q at *
  refine ⟨Zig.w64_id _ (by omega) (by omega), Zig.w64_id _ (by omega) (by omega), ?_, ?_⟩
  · rw [Zig.w64_id _ (by omega) (by omega)]; omega
  · rw [Zig.w64_id _ (by omega) (by omega)]; omega
theorem back_loop (old : List Int) (ho : old.length ≤ 100) (hb : ∀ x ∈ old, 0 ≤ x ∧ x < 256) (L : List (List Int)) (hL : ∀ b ∈ L, b.length ≤ 1000 ∧ ∀ x ∈ b, 0 ≤ x ∧ x < 256) (hn : L.length ≤ 10) : ∀ (m i k : Nat), i + m = L.length → 5000 + m + 1 ≤ k →
    repriselaw5_DeltaBack.l0 k old L (L.length : Int) (i : Int) = some true := by
  intro m
  induction m with
  | zero =>
    intro i k h1 h2
    obtain ⟨k, rfl⟩ : ∃ j, k = j + 1 := ⟨k - 1, by omega⟩
    rw [repriselaw5_DeltaBack.l0, if_neg (by omega), make_f old old (by omega) (by omega) hb hb, Option.bind_some]
    by_cases h4 : (old.length : Int) < 4
    · rw [if_pos h4]
    · have := DeltaM.make_self old (by omega) (by omega)
      rw [if_neg h4, decide_eq_true (by omega)]
  | succ m ih =>
    intro i k h1 h2
    obtain ⟨k, rfl⟩ : ∃ j, k = j + 1 := ⟨k - 1, by omega⟩
    have hlt : i < L.length := by omega
    obtain ⟨g1, g2⟩ := hL L[i] (List.getElem_mem hlt)
    have hrd : rd_L1 L (i : Int) = L[i] := by
      unfold rd_L1
      rw [Int.toNat_natCast, List.getD_eq_getElem?_getD, List.getElem?_eq_getElem hlt]
      rfl
    have ew : wrap64 ((i : Int) + 1) = ((i + 1 : Nat) : Int) := by rw [Zig.w64_id _ (by omega) (by omega)]; omega
    have hI := ih (i + 1) k (by omega) (by omega)
    generalize L[i] = b at *
    have hlen := DeltaM.make_len old b (by omega) g1
    have hneg : ¬ (((DeltaM.make old b).length : Int) > ((b.length + 4 + b.length / 4 * 2 : Nat) : Int)) := by clear hI hrd; omega
    have p1 : (i : Int) < (L.length : Int) := by clear hneg hlen hI; omega
    have p2 : (0 : Int) ≤ (i : Int) := Int.natCast_nonneg i
    have ha := back_apply k (by clear hneg hlen hI; omega) old b (by clear hneg hlen hI; omega) g1 g2
    have hm := make_f old b (by clear hneg hlen hI; omega) (by clear hneg hlen hI; omega) hb g2
    obtain ⟨w1, w2, w3, w4⟩ := back_w b.length g1
    rw [repriselaw5_DeltaBack.l0, if_pos p1, if_pos p2, if_pos p1, hrd, hm, Option.bind_some, ha, Option.bind_some]
    dsimp only
    rw [if_pos rfl, if_pos rfl, w1, w2, w3, w4, if_neg hneg, ew, hI]
theorem DeltaBack : repriselaw5_DeltaBack.Pure := by
  unfold repriselaw5_DeltaBack.Pure
  intro l0 l1 l2 g1 g2 g3 g4 g5 g6 g7 g8 g9
  have hb : ∀ x ∈ l0, 0 ≤ x ∧ x < 256 := fun x hx => DeltaM.wf8_iff (g3 x hx)
  have hb1 : ∀ x ∈ l1, 0 ≤ x ∧ x < 256 := fun x hx => DeltaM.wf8_iff (g6 x hx)
  have hw2 : ∀ x ∈ l2, 0 ≤ x ∧ x < 65536 := fun x hx => wf16_iff (g9 x hx)
  have hk : repriselaw5_known.f = some true := rfl
  refine ⟨6001, ?_⟩
  unfold repriselaw5_DeltaBack.f
  rw [hk, Option.bind_some, if_pos rfl]
  by_cases c1 : (l0.length : Int) > 100
  · rw [if_pos c1, repriselaw5_DeltaBack.j0, if_pos rfl]
  rw [if_neg c1]
  by_cases c2 : (l1.length : Int) > 100
  · rw [if_pos c2, repriselaw5_DeltaBack.j0, if_pos rfl]
  rw [if_neg c2]
  by_cases c3 : (l2.length : Int) > 20
  · rw [decide_eq_true c3, repriselaw5_DeltaBack.j0, if_pos rfl]
  rw [decide_eq_false c3, repriselaw5_DeltaBack.j0, if_neg (by decide)]
  obtain ⟨a, a1, a2, a3⟩ := twist_f l0 l2 (by omega) hb (by omega) hw2
  rw [a1 6000 (by omega), Option.bind_some, if_pos (by simp only [List.length_nil]; omega), Option.bind_some, List.nil_append, if_pos (by omega), Option.bind_some]
  exact back_loop l0 (by omega) hb [l1, a, l0, l0 ++ l0] (fun b hbm => by
    simp only [List.mem_cons, List.not_mem_nil, or_false] at hbm
    rcases hbm with rfl | rfl | rfl | rfl
    · exact ⟨by omega, hb1⟩
    · exact ⟨by omega, a3⟩
    · exact ⟨by omega, hb⟩
    · exact ⟨by rw [List.length_append]; omega, fun x hx => (List.mem_append.1 hx).elim (hb x) (hb x)⟩) (by simp) 4 0 6000 (by simp) (by omega)
end Go.Proofs.Ytmaefdeigienjaa.Pure
