/- EventLimits: just how much an event may have, and when it may be; for every choice of the law. -/
import Derived.Test.YtmaefdeigienjaaEventFnsEventLimits
namespace Go.Proofs.Ytmaefdeigienjaa.Pure
open Go.RowKit Go.Proofs.Ytmaefdeigienjaa.QEventLimits Go.Proofs.YtmaefdeigienjaaW.PrintWords Go.Proofs.YtmaefdeigienjaaW.PrintLast Go.Proofs.YtmaefdeigienjaaW.PrintMore
theorem check2 (t : Int) (h1 : t ≤ 5) (h0 : 0 ≤ t) : event_Check.f 40 [⟨5, 0, [], 0, 0⟩, ⟨t, 0, [], 0, 0⟩] = some (if t < 5 then (1, 24) else (0, 0)) := by
  have c1 : Ev.chk 0 5 0 [] 0 0 = 0 := by decide
  have c2 : Ev.chk 5 t 0 [] 0 0 = if t < 5 then 24 else 0 := by
    unfold Ev.chk
    rw [if_neg (by simp), if_neg (by simp), if_neg (by simp)]
    by_cases h : t < 5
    · rw [if_pos (by omega), if_pos h]
    · rw [if_neg (by omega), if_neg h]
  have w1 : wrap64 (0 + 1) = 1 := Zig.w64_id _ (by decide) (by decide)
  have w2 : wrap64 (1 + 1) = 2 := Zig.w64_id _ (by decide) (by decide)
  have r0 : rd_T30 [⟨5, 0, [], 0, 0⟩, ⟨t, 0, [], 0, 0⟩] 0 = ⟨5, 0, [], 0, 0⟩ := rfl
  have r1 : rd_T30 [⟨5, 0, [], 0, 0⟩, ⟨t, 0, [], 0, 0⟩] 1 = ⟨t, 0, [], 0, 0⟩ := rfl
  unfold event_Check.f
  rw [if_neg (by simp), show (([⟨5, 0, [], 0, 0⟩, ⟨t, 0, [], 0, 0⟩] : List S30).length : Int) = 2 from rfl]
  rw [event_Check.l0, if_pos (by decide), if_pos (by decide), if_pos (by simp), r0, check_f 39 (by decide), Option.bind_some, c1, if_pos rfl, w1]
  rw [event_Check.l0, if_pos (by decide), if_pos (by decide), if_pos (by simp), r1, check_f 38 (by decide), Option.bind_some, c2]
  by_cases h : t < 5
  · rw [if_pos h, if_neg (by decide), if_pos h]
  · rw [if_neg h, if_pos rfl, w2, event_Check.l0, if_neg (by decide), if_neg h]
theorem put_want (tick q : Int) (y : List Int) (h0 : 0 ≤ tick) (hq : q = 0 ∨ q = 1) : Ev.putE 0 tick q y 0 0 = if (y.length : Int) > 1048576 then ([], 25) else if tick > 4611686018427387904 then ([], 24) else (Leb.enc (tick - 0).toNat ++ Leb.enc q.toNat ++ Leb.encBytes y, 0) := by
  have c : Ev.chk 0 tick q y 0 0 = if (y.length : Int) > 1048576 then 25 else if tick > 4611686018427387904 then 24 else 0 := by
    unfold Ev.chk
    rw [if_neg (by omega)]
    by_cases h1 : (y.length : Int) > 1048576
    · rw [if_pos h1, if_pos h1]
    · rw [if_neg h1, if_neg h1, if_neg (by omega)]
      by_cases h2 : tick > 4611686018427387904
      · rw [if_pos (by omega), if_pos h2]
      · rw [if_neg (by omega), if_neg h2]
  unfold Ev.putE
  rw [c]
  by_cases h1 : (y.length : Int) > 1048576
  · rw [if_pos h1, if_neg (by decide), if_pos h1]
  · rw [if_neg h1, if_neg h1]
    by_cases h2 : tick > 4611686018427387904
    · rw [if_pos h2, if_neg (by decide), if_pos h2]
    · rw [if_neg h2, if_pos rfl, if_neg (by decide), if_neg h2, if_neg (by omega)]
theorem last_want (p : Int) (hp : p = 0 ∨ p = 1) : (((if 5 - p < 5 then ((1 : Int), (24 : Int)) else (0, 0)).2 == 24) == (p == 1)) = true := by
  rcases hp with rfl | rfl <;> decide
theorem EventLimits : repriselaw23_EventLimits.Pure := by
  intro a0 a1 h0 h1
  have b0 := Zig.wf_u8 h0
  have b1 := Zig.wf_u8 h1
  refine ⟨40, ?_⟩
  unfold repriselaw23_EventLimits.f repriselaw23_known.f
  rw [Option.bind_some, if_pos rfl, Int.tdiv_eq_ediv_of_nonneg b0.1, Int.tmod_eq_emod_of_nonneg b0.1, Int.tmod_eq_emod_of_nonneg b0.1, Int.tmod_eq_emod_of_nonneg b1.1]
  obtain ⟨d, hd, hd2⟩ : ∃ d : Int, a0 / 3 % 256 % 3 = d ∧ (0 ≤ d ∧ d ≤ 2) := ⟨_, rfl, by omega⟩
  obtain ⟨t, ht, ht2⟩ : ∃ t : Int, a0 % 3 = t ∧ (0 ≤ t ∧ t ≤ 2) := ⟨_, rfl, by omega⟩
  obtain ⟨q, hq, hq2⟩ : ∃ q : Int, a1 % 2 = q ∧ (q = 0 ∨ q = 1) := ⟨_, rfl, by omega⟩
  obtain ⟨p, hp, hp2⟩ : ∃ p : Int, a0 % 2 = p ∧ (p = 0 ∨ p = 1) := ⟨_, rfl, by omega⟩
  rw [hd, ht, hq, hp, if_pos (by omega), if_pos (by omega), Option.bind_some, Zig.w64_id t (by omega) (by omega), Zig.w64_id q (by omega) (by omega), Zig.w64_id p (by omega) (by omega), Zig.w64_id (4611686018427387903 + t) (by omega) (by omega),
    Zig.w64_id (5 - p) (by omega) (by omega)]
  have hyl : ((List.replicate (1048575 + d).toNat (0 : Int)).length : Int) = 1048575 + d := by rw [List.length_replicate]; omega
  generalize List.replicate (1048575 + d).toNat (0 : Int) = y at *
  rw [put_E 40 (by decide), Option.bind_some, put_want _ _ _ (by omega) hq2, check2 (5 - p) (by omega) (by omega), Option.bind_some]
  have hL := last_want p hp2
  by_cases g1 : (y.length : Int) > 1048576
  · rw [if_pos g1, if_pos g1, if_pos g1]
    by_cases g2 : 4611686018427387903 + t > 4611686018427387904
    · rw [if_pos g2, if_pos rfl, if_pos (by decide), hL]
    · rw [if_neg g2, if_pos rfl, if_pos (by decide), hL]
  · rw [if_neg g1, if_neg g1, if_neg g1]
    by_cases g2 : 4611686018427387903 + t > 4611686018427387904
    · rw [if_pos g2, if_pos g2, Option.bind_some, if_pos rfl, if_pos (by decide), hL]
    · rw [if_neg g2, if_neg g2, Option.bind_some, if_pos rfl, if_pos, hL]
      have := Leb.enc_pos (4611686018427387903 + t - 0).toNat
      rw [beq_iff_eq, Bool.eq_iff_iff]
      simp only [List.length_append, decide_eq_true_iff]
      constructor
      · intro _; rfl
      · intro _; omega
end Go.Proofs.Ytmaefdeigienjaa.Pure
