/- LebShort: each beginning of a number is short, and nothing else is; for every number and cut. -/
import Derived.Test.YtkgdmbddenfkpabLebFns2LebShort
import Derived.Test.YtkgdmbddenfkpabQLebShortx2
namespace Go.Proofs.Ytkgdmbddenfkpab.Pure
open Go.RowKit Go.Proofs.Ytkgdmbddenfkpab.QLebShort Go.Proofs.YtkgdmbddenfkpabW.PrintWords Go.Proofs.YtkgdmbddenfkpabW.PrintLast
theorem short_known : repriselaw1_known.f 30 = some true := by
  unfold repriselaw1_known.f
  simp only [Lib.strOfNums_toList]
  decide +kernel
theorem short_edge (n k : Int) (h0 : 0 ≤ n) (h : n ≤ 18446744073709551615) (hk0 : 0 ≤ k) (hk : k ≤ 255) : ∃ r, repriselaw1_edge.f n k = some r ∧ 0 ≤ r ∧ r ≤ 18446744073709551615 := by
  unfold repriselaw1_edge.f
  simp only [Option.bind_some, List.length_cons, List.length_nil]
  rw [Zig.w64_id k (by omega) (by omega), Int.tmod_eq_emod_of_nonneg hk0]
  have hm : 0 ≤ k % 13 ∧ k % 13 < 13 := by omega
  rw [if_neg (by decide), if_pos (by omega), if_pos (by omega)]
  refine ⟨_, rfl, ?_⟩
  have : ∀ i : Nat, i < 13 → 0 ≤ rd [n, n / 4294967296, n / 1125899906842624, n / 144115188075855872, 0, 127, 128, 16383, 16384, 9223372036854775807, 9223372036854775808, 18446744073709551615, 34359738368] (i : Int) ∧ rd [n, n / 4294967296, n / 1125899906842624, n / 144115188075855872, 0, 127, 128, 16383, 16384, 9223372036854775807, 9223372036854775808, 18446744073709551615, 34359738368] (i : Int) ≤ 18446744073709551615 := by
    intro i hi
    rcases i with _ | _ | _ | _ | _ | _ | _ | _ | _ | _ | _ | _ | _ | i
    all_goals first | omega | (simp [rd]; omega) | simp [rd]
  have h2 := this (k % 13).toNat (by omega)
  rw [show (((k % 13).toNat : Nat) : Int) = k % 13 from by omega] at h2
  exact h2
/-- a beginning of a number is short -/
theorem decA_take (m : Nat) : ∀ (j i acc : Nat), m * 2 ^ (7 * i) < 18446744073709551616 → j < (Leb.enc m).length → Leb.decA ((Leb.enc m).take j) i acc = (0, 0, 22) := by
  induction m using Nat.strongRecOn with
  | _ m ih =>
    intro j i acc h hj
    cases j with
    | zero => rw [List.take_zero, Leb.decA]
    | succ j =>
      have h1 : ¬ m < 128 := by intro h1; rw [Leb.enc_small m h1] at hj; simp at hj
      have h9 : ¬ i = 9 := by
        rintro rfl
        have h3 : (2 : Nat) ^ (7 * 9) = 9223372036854775808 := by decide
        rw [h3] at h; omega
      rw [Leb.enc_big m h1] at hj ⊢
      rw [List.take_succ_cons, Leb.decA, if_neg (by omega), if_neg (by omega)]
      have e : m / 128 * 2 ^ (7 * (i + 1)) ≤ m * 2 ^ (7 * i) := by
        rw [Leb.pow7, ← Nat.mul_assoc]
        exact Nat.mul_le_mul_right _ (by omega)
      exact ih (m / 128) (by omega) j (i + 1) _ (by omega) (by simpa using hj)
theorem dec_take (m j : Nat) (h : m < 18446744073709551616) (hj : j < (Leb.enc m).length) : Leb.dec ((Leb.enc m).take j) = (0, 0, 22) :=
  decA_take m j 0 0 (by simpa using h) hj
theorem byte_take {l : List Int} (h : ∀ x ∈ l, 0 ≤ x ∧ x < 256) (j : Nat) : ∀ x ∈ l.take j, 0 ≤ x ∧ x < 256 := fun x hx => h x (List.mem_of_mem_take hx)
theorem nine : ∀ i : Nat, i < 10 → (((Leb.decBytes ((9 :: List.replicate 9 0 : List Int).take (1 + i)) 9).2.2 == 22) == decide (((i : Nat) : Int) < 9)) = true := by decide +kernel
theorem enc_nine : Leb.encBytes (List.replicate 9 0) = 9 :: List.replicate 9 0 := by
  unfold Leb.encBytes
  rw [List.length_replicate, Leb.enc_small 9 (by decide)]; rfl
theorem LebShort : repriselaw1_LebShort.Pure := by
  intro a0 a1 a2 h0 h1 h2
  have b0 := Zig.wf_u64 h0
  have b1 := Zig.wf_u8 h1
  have b2 := Zig.wf_u8 h2
  refine ⟨30, ?_⟩
  unfold repriselaw1_LebShort.f
  rw [short_known, Option.bind_some, if_pos rfl]
  obtain ⟨x, hx, x0, x1⟩ := short_edge a0 a1 b0.1 b0.2 b1.1 b1.2
  have l1 := Leb.enc_len10 x.toNat (by omega)
  have l2 := Leb.enc_pos x.toNat
  rw [hx, Option.bind_some, put_f 30 x x0 x1 (by decide), Option.bind_some, if_neg (by omega), Zig.w64_id a2 (by omega) (by omega), Int.tmod_eq_emod_of_nonneg b2.1]
  obtain ⟨i, hi, hil⟩ : ∃ i : Nat, a2 % ((Leb.enc x.toNat).length : Int) = (i : Int) ∧ i < (Leb.enc x.toNat).length := by
    have q0 := Int.emod_nonneg a2 (b := ((Leb.enc x.toNat).length : Int)) (by omega)
    have q1 := Int.emod_lt_of_pos a2 (b := ((Leb.enc x.toNat).length : Int)) (by omega)
    exact ⟨(a2 % ((Leb.enc x.toNat).length : Int)).toNat, by omega, by omega⟩
  rw [hi, if_pos (by omega), if_pos (by omega), Int.toNat_natCast, read_f 30 _ (byte_take (Leb.enc_byte _) i) (by decide), Option.bind_some, dec_take x.toNat i (by omega) hil, if_pos (by decide),
    putBytes_f 30 _ (by rw [List.length_replicate]; decide) (by decide), Option.bind_some, enc_nine, Zig.w64_id (1 + (i : Int)) (by omega) (by omega), if_pos (by omega),
    if_pos (by rw [List.length_cons, List.length_replicate]; omega), Option.bind_some, show (1 + (i : Int)).toNat = 1 + i from by omega]
  have ht : ((9 :: List.replicate 9 0 : List Int).take (1 + i)).length = 1 + i := by rw [List.length_take, List.length_cons, List.length_replicate]; omega
  have e : ((9 :: List.replicate 9 0 : List Int).take (1 + i) ++ [0]).take (1 + i) = (9 :: List.replicate 9 0 : List Int).take (1 + i) := List.take_left' ht
  rw [if_pos (by omega), Option.bind_some, if_pos (by rw [List.length_append, ht, List.length_singleton]; omega), e]
  have hb : ∀ y ∈ (9 :: List.replicate 9 0 : List Int).take (1 + i), 0 ≤ y ∧ y < 256 := byte_take (by decide) _
  rw [readBytes_f 30 _ 9 (by omega) hb (by decide) (by decide) (by decide), Option.bind_some, if_pos rfl, if_pos rfl, if_pos rfl, nine i (by omega)]
end Go.Proofs.Ytkgdmbddenfkpab.Pure
