/- Plain laws of the zigzag numbers: what the printed Zig and Zag come to, for every 64-bit number. -/
import Derived.Laws.BitsAllLaws
import Derived.RowKit
namespace Go.Proofs.Ytmaefdeigienjaa.Zig
open Go.RowKit
theorem u64w (n : Int) : IntKind.u64.wrap n = n % 18446744073709551616 := by simp [IntKind.wrap, IntKind.bits, IntKind.signed]
theorem i64w (n : Int) : IntKind.i64.wrap n = wrap64 n := by
  unfold wrap64
  simp [IntKind.wrap, IntKind.bits, IntKind.signed]
  split <;> omega
theorem w64_id (n : Int) (h1 : -9223372036854775808 ≤ n) (h2 : n < 9223372036854775808) : wrap64 n = n := by unfold wrap64; omega
/-- xor with all ones -/
theorem xor_ones_u64 (a : Int) (h1 : 0 ≤ a) (h2 : a < 18446744073709551616) : bits .xor .u64 a 18446744073709551615 = 18446744073709551615 - a := by
  obtain ⟨n, rfl⟩ := Int.eq_ofNat_of_zero_le h1
  rw [show (18446744073709551615 : Int) = ((18446744073709551615 : Nat) : Int) from rfl, u64_xor_nat n _ (by omega) (by decide)]
  have h : n ^^^ 18446744073709551615 = 18446744073709551615 - n := by
    have e : BitVec.ofNat 64 n ^^^ BitVec.allOnes 64 = ~~~ BitVec.ofNat 64 n := BitVec.xor_allOnes
    have e2 := congrArg BitVec.toNat e
    rw [BitVec.toNat_xor, BitVec.toNat_not, BitVec.toNat_ofNat, BitVec.toNat_allOnes, Nat.mod_eq_of_lt (by omega)] at e2
    simpa using e2
  rw [h]; omega
theorem xor_zero_u64 (a : Int) (h1 : 0 ≤ a) (h2 : a < 18446744073709551616) : bits .xor .u64 a 0 = a := by
  rw [u64_xor a 0 h1 h2 (by decide) (by decide)]; simp; omega
theorem and_one_u64 (a : Int) (h1 : 0 ≤ a) (h2 : a < 18446744073709551616) : bits .and .u64 a 1 = a % 2 := by
  rw [u64_and a 1 h1 h2 (by decide) (by decide)]
  have : a.toNat &&& (1 : Int).toNat = a.toNat % 2 := Nat.and_one_is_mod _
  rw [this]; omega
theorem xor_zero_i64 (a : Int) (h1 : 0 ≤ a) (h2 : a < 9223372036854775808) : bits .xor .i64 a 0 = a := by
  obtain ⟨n, rfl⟩ := Int.eq_ofNat_of_zero_le h1
  have e : (BitVec.ofInt 64 (n : Int) ^^^ BitVec.ofInt 64 0).toNat = n := by
    rw [BitVec.toNat_xor, BitVec.ofInt_natCast, BitVec.toNat_ofNat, Nat.mod_eq_of_lt (by omega)]; simp
  show IntKind.i64.wrap (((BitVec.ofInt 64 (n : Int) ^^^ BitVec.ofInt 64 0).toNat : Nat) : Int) = _
  rw [e, i64w, w64_id _ (by omega) (by omega)]
theorem xor_ones_i64 (a : Int) (h1 : 0 ≤ a) (h2 : a < 9223372036854775808) : bits .xor .i64 a (-1) = -1 - a := by
  obtain ⟨n, rfl⟩ := Int.eq_ofNat_of_zero_le h1
  have e : (BitVec.ofInt 64 (n : Int) ^^^ BitVec.ofInt 64 (-1)).toNat = 18446744073709551615 - n := by
    have e0 : BitVec.ofInt 64 (-1) = BitVec.allOnes 64 := by decide
    rw [e0, BitVec.xor_allOnes, BitVec.toNat_not, BitVec.ofInt_natCast, BitVec.toNat_ofNat, Nat.mod_eq_of_lt (by omega)]
  show IntKind.i64.wrap (((BitVec.ofInt 64 (n : Int) ^^^ BitVec.ofInt 64 (-1)).toNat : Nat) : Int) = _
  rw [e, i64w]; unfold wrap64; omega
/-- what Zig comes to -/
theorem zig (a : Int) (h1 : -9223372036854775808 ≤ a) (h2 : a ≤ 9223372036854775807) :
    bits .xor .u64 (IntKind.u64.wrap ((IntKind.u64.wrap a) * 2)) (IntKind.u64.wrap (a / 9223372036854775808)) = if a < 0 then -2 * a - 1 else 2 * a := by
  rw [u64w, u64w, u64w]
  by_cases h : a < 0
  · rw [if_pos h, show a / 9223372036854775808 % 18446744073709551616 = 18446744073709551615 by omega, xor_ones_u64 _ (by omega) (by omega)]; omega
  · rw [if_neg h, show a / 9223372036854775808 % 18446744073709551616 = 0 by omega, xor_zero_u64 _ (by omega) (by omega)]; omega
/-- what Zag comes to -/
theorem zag (n : Int) (h1 : 0 ≤ n) (h2 : n ≤ 18446744073709551615) :
    bits .xor .i64 (wrap64 (n / 2)) (wrap64 (-(wrap64 (bits .and .u64 n 1)))) = if n % 2 = 0 then n / 2 else -(n / 2) - 1 := by
  rw [and_one_u64 n h1 (by omega), w64_id (n / 2) (by omega) (by omega), w64_id (n % 2) (by omega) (by omega), w64_id (-(n % 2)) (by omega) (by omega)]
  by_cases h : n % 2 = 0
  · rw [if_pos h, h, show -(0 : Int) = 0 from rfl, xor_zero_i64 _ (by omega) (by omega)]
  · rw [if_neg h, show n % 2 = 1 by omega, xor_ones_i64 _ (by omega) (by omega)]; omega
theorem wf_i64 {a : Int} (h : (Lit.int .i64 a).wf = true) : -9223372036854775808 ≤ a ∧ a ≤ 9223372036854775807 := by
  simp [Lit.wf, IntKind.min, IntKind.max, IntKind.signed, IntKind.bits] at h; omega
theorem wf_u64 {a : Int} (h : (Lit.int .u64 a).wf = true) : 0 ≤ a ∧ a ≤ 18446744073709551615 := by
  simp [Lit.wf, IntKind.min, IntKind.max, IntKind.signed, IntKind.bits] at h; omega
theorem wf_u32 {a : Int} (h : (Lit.int .u32 a).wf = true) : 0 ≤ a ∧ a ≤ 4294967295 := by
  simp [Lit.wf, IntKind.min, IntKind.max, IntKind.signed, IntKind.bits] at h; omega
theorem wf_u16 {a : Int} (h : (Lit.int .u16 a).wf = true) : 0 ≤ a ∧ a ≤ 65535 := by
  simp [Lit.wf, IntKind.min, IntKind.max, IntKind.signed, IntKind.bits] at h; omega
theorem wf_u8 {a : Int} (h : (Lit.int .u8 a).wf = true) : 0 ≤ a ∧ a ≤ 255 := by
  simp [Lit.wf, IntKind.min, IntKind.max, IntKind.signed, IntKind.bits] at h; omega
end Go.Proofs.Ytmaefdeigienjaa.Zig
