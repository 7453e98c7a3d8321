/- LebOrder: a greater number has no fewer bytes, and no two have one form; for every two numbers. -/
import Derived.Test.YtkgdmbddenfkpaaQLebOrderx2
import Derived.Test.YtkgdmbddenfkpaaZigMath
import Derived.Test.YtkgdmbddenfkpaaLebMath
namespace Go.Proofs.Ytkgdmbddenfkpaa.Pure
open Go.RowKit Go.Proofs.Ytkgdmbddenfkpaa.QLebOrder Go.Proofs.YtkgdmbddenfkpaaW.PrintWords Go.Proofs.YtkgdmbddenfkpaaW.PrintLast
theorem order_known : repriselaw1_known.f 30 = some true := by
  unfold repriselaw1_known.f
  simp only [Lib.strOfNums_toList]
  decide +kernel
theorem put_l0 (k : Nat) : ∀ (n : Nat) (acc : List Int), n < 18446744073709551616 → (Leb.enc n).length ≤ k → acc.length + (Leb.enc n).length ≤ 140737488355328 →
    leb_Put.l0 k (n : Int) acc = some (acc ++ Leb.enc n) := by
  induction k with
  | zero => intro n acc _ h _; have := Leb.enc_pos n; omega
  | succ k ih =>
    intro n acc hn hk hl
    have hp := Leb.enc_pos n
    simp only [leb_Put.l0]
    by_cases h : n < 128
    · rw [if_neg (by omega), if_pos (by omega), Leb.enc_small n h, show (n : Int) % 256 = n from by omega]
    · rw [Leb.enc_big n h] at hk hl ⊢
      simp only [List.length_cons] at hk hl
      rw [if_pos (by omega), if_pos (by omega), Leb.or128, show (n : Int) / 128 = ((n / 128 : Nat) : Int) from by omega, show (n : Int) % 128 + 128 = ((n % 128 + 128 : Nat) : Int) from by omega,
        ih (n / 128) _ (by omega) (by omega) (by simp only [List.length_append, List.length_cons, List.length_nil]; omega)]
      simp
theorem put_f (k : Nat) (n : Int) (h0 : 0 ≤ n) (h : n ≤ 18446744073709551615) (hk : 10 ≤ k) : leb_Put.f k n = some (Leb.enc n.toNat) := by
  have h10 := Leb.enc_len10 n.toNat (by omega)
  have := put_l0 k n.toNat [] (by omega) (by omega) (by simp only [List.length_nil]; omega)
  rw [show ((n.toNat : Nat) : Int) = n from by omega] at this
  simpa [leb_Put.f] using this
theorem edge_f (n k : Int) (h0 : 0 ≤ n) (h : n ≤ 18446744073709551615) (hk0 : 0 ≤ k) (hk : k ≤ 255) : ∃ r, repriselaw1_edge.f n k = some r ∧ 0 ≤ r ∧ r ≤ 18446744073709551615 := by
  unfold repriselaw1_edge.f
  simp only [Option.bind_some, List.length_cons, List.length_nil]
  rw [Zig.w64_id k (by omega) (by omega), Int.tmod_eq_emod_of_nonneg hk0]
  have hm : 0 ≤ k % 13 ∧ k % 13 < 13 := by omega
  rw [if_neg (by decide), if_pos (by omega), if_pos (by omega)]
  refine ⟨_, rfl, ?_⟩
  have : ∀ i : Nat, i < 13 → 0 ≤ rd [n, n / 4294967296, n / 1125899906842624, n / 144115188075855872, 0, 127, 128, 16383, 16384, 9223372036854775807, 9223372036854775808, 18446744073709551615, 34359738368] (i : Int) ∧ rd [n, n / 4294967296, n / 1125899906842624, n / 144115188075855872, 0, 127, 128, 16383, 16384, 9223372036854775807, 9223372036854775808, 18446744073709551615, 34359738368] (i : Int) ≤ 18446744073709551615 := by
    intro i hi
    rcases i with _ | _ | _ | _ | _ | _ | _ | _ | _ | _ | _ | _ | _ | i
    all_goals first | omega | (simp [rd]; omega) | simp [rd]
  have h2 := this (k % 13).toNat (by omega)
  rw [show (((k % 13).toNat : Nat) : Int) = k % 13 from by omega] at h2
  exact h2
theorem LebOrder : repriselaw1_LebOrder.Pure := by
  intro a0 a1 a2 a3 h0 h1 h2 h3
  have b0 := Zig.wf_u64 h0
  have b1 := Zig.wf_u64 h1
  have b2 := Zig.wf_u8 h2
  have b3 := Zig.wf_u8 h3
  refine ⟨30, ?_⟩
  unfold repriselaw1_LebOrder.f
  rw [order_known]
  simp only [Option.bind_some, if_true]
  obtain ⟨x, hx, x0, x1⟩ := edge_f a0 a2 b0.1 b0.2 b2.1 b2.2
  obtain ⟨y, hy, y0, y1⟩ := edge_f a1 a3 b1.1 b1.2 b3.1 b3.2
  rw [hx]
  simp only [Option.bind_some]
  rw [hy]
  simp only [Option.bind_some]
  rw [put_f 30 x x0 x1 (by decide), put_f 30 y y0 y1 (by decide)]
  simp only [Option.bind_some]
  rw [Leb.str_iff (Leb.enc_byte _) (Leb.enc_byte _)]
  have l1 := Leb.enc_len10 x.toNat (by omega)
  have l2 := Leb.enc_pos x.toNat
  have e : (decide (Leb.enc x.toNat = Leb.enc y.toNat) == (x == y)) = true := by
    rw [beq_iff_eq, Bool.eq_iff_iff, decide_eq_true_iff, beq_iff_eq]
    constructor
    · intro h; have := Leb.enc_inj h; omega
    · intro h; rw [h]
  rw [if_pos e]
  by_cases h : x > y
  · rw [if_pos h, if_pos (by omega)]; simp; omega
  · have := Leb.enc_mono x.toNat y.toNat (by omega)
    rw [if_neg h, if_pos (by omega), if_pos (by omega)]; simp; omega
end Go.Proofs.Ytkgdmbddenfkpaa.Pure
