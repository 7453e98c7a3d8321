/- Plain laws of reading a number: 'dec', the number that bytes begin with, or why none; it brings back what 'enc' told. -/
import Derived.Test.YtmaefdeigienjaaLebMath
import Derived.Test.YtmaefdeigienjaaZigMath
namespace Go.Proofs.Ytmaefdeigienjaa.Leb
open Go.RowKit
def decA : List Int → Nat → Nat → Int × Int × Int
  | [], _, _ => (0, 0, 22)
  | c :: r, i, acc => if i = 9 ∧ c > 1 then (0, 0, 21) else if c < 128 then (if 0 < i ∧ c = 0 then (0, 0, 21) else (((acc + c.toNat % 128 * 2 ^ (7 * i) : Nat) : Int), ((i + 1 : Nat) : Int), 0))
      else decA r (i + 1) (acc + c.toNat % 128 * 2 ^ (7 * i))
def dec (l : List Int) : Int × Int × Int := decA l 0 0
theorem or_hi (acc c i : Nat) (h : acc < 2 ^ i) (hc : acc + c * 2 ^ i < 18446744073709551616) : bits .or .u64 (acc : Int) ((c * 2 ^ i : Nat) : Int) = ((acc + c * 2 ^ i : Nat) : Int) := by
  rw [u64_or_nat acc (c * 2 ^ i) (by omega) (by omega), Nat.or_comm, Nat.mul_comm c, ← Nat.two_pow_add_eq_or_of_lt h]
  rw [Nat.add_comm]
theorem andNot128 (c : Int) (h0 : 0 ≤ c) (h1 : c < 256) : bits .andNot .u8 c 128 = c % 128 := by
  rw [u8_andNot c 128 h0 h1 (by decide) (by decide)]
  have h : ∀ m : Nat, m < 256 → m &&& (255 - 128) = m % 128 := by decide +kernel
  rw [show (128 : Int).toNat = 128 from rfl, h c.toNat (by omega)]; omega
theorem shl_step (c : Int) (i : Nat) (h0 : 0 ≤ c) (h1 : c < 256) (hi : i ≤ 9) (hc : c % 128 * 2 ^ (7 * i) < 18446744073709551616) :
    IntKind.u64.wrap (IntKind.u64.wrap (bits .andNot .u8 c 128) * 2 ^ min ((7 * (i : Int)).toNat) 64) = ((c.toNat % 128 * 2 ^ (7 * i) : Nat) : Int) := by
  rw [andNot128 c h0 h1, Zig.u64w, Zig.u64w, show c % 128 % 18446744073709551616 = c % 128 from by omega, show (7 * (i : Int)).toNat = 7 * i from by omega, Nat.min_eq_left (by omega)]
  have hp : (0 : Int) < 2 ^ (7 * i) := by exact_mod_cast Nat.two_pow_pos (7 * i)
  rw [Int.emod_eq_of_lt (Int.mul_nonneg (by omega) (by omega)) hc]
  push_cast
  rw [Int.toNat_of_nonneg h0]
theorem pow7 (i : Nat) : 2 ^ (7 * (i + 1)) = 128 * 2 ^ (7 * i) := by rw [show 7 * (i + 1) = 7 + 7 * i from by omega, Nat.pow_add]
/-- what the low bits come to stays below the next ones -/
theorem acc_lt (acc c i : Nat) (h : acc < 2 ^ (7 * i)) : acc + c % 128 * 2 ^ (7 * i) < 2 ^ (7 * (i + 1)) := by
  rw [pow7]
  have h1 : c % 128 * 2 ^ (7 * i) ≤ 127 * 2 ^ (7 * i) := Nat.mul_le_mul_right _ (by omega)
  omega
theorem acc_64 (acc c i : Nat) (h : acc < 2 ^ (7 * i)) (hi : i ≤ 8 ∨ i = 9 ∧ c ≤ 1) : acc + c % 128 * 2 ^ (7 * i) < 18446744073709551616 := by
  rcases hi with hi | ⟨rfl, hc⟩
  · have h1 := acc_lt acc c i h
    have h2 : 2 ^ (7 * (i + 1)) ≤ 2 ^ 63 := Nat.pow_le_pow_right (by decide) (by omega)
    have h3 : (2 : Nat) ^ 63 = 9223372036854775808 := by decide
    omega
  · have h3 : (2 : Nat) ^ (7 * 9) = 9223372036854775808 := by decide
    rw [h3] at h ⊢
    have : c % 128 ≤ 1 := by omega
    have h1 : c % 128 * 9223372036854775808 ≤ 1 * 9223372036854775808 := Nat.mul_le_mul_right _ this
    omega
theorem decA_enc (m : Nat) : ∀ (i acc : Nat) (r : List Int), m * 2 ^ (7 * i) < 18446744073709551616 → (0 < i → 0 < m) →
    decA (enc m ++ r) i acc = (((acc + m * 2 ^ (7 * i) : Nat) : Int), ((i + (enc m).length : Nat) : Int), 0) := by
  induction m using Nat.strongRecOn with
  | _ m ih =>
    intro i acc r h hi
    have h9 : i = 9 → m ≤ 1 := by
      rintro rfl
      have h3 : (2 : Nat) ^ (7 * 9) = 9223372036854775808 := by decide
      rw [h3] at h; omega
    by_cases h1 : m < 128
    · rw [enc_small m h1]
      rw [List.singleton_append, decA]
      rw [if_neg (by omega), if_pos (by omega), if_neg (by omega), Int.toNat_natCast, Nat.mod_eq_of_lt h1]
      simp
    · rw [enc_big m h1]
      rw [List.cons_append, decA]
      rw [if_neg (by omega), if_neg (by omega), Int.toNat_natCast, show (m % 128 + 128) % 128 = m % 128 from by omega]
      have hm : m = 128 * (m / 128) + m % 128 := by omega
      have hp := pow7 i
      have e : m / 128 * 2 ^ (7 * (i + 1)) + m % 128 * 2 ^ (7 * i) = m * 2 ^ (7 * i) := by
        rw [hp, ← Nat.mul_assoc, ← Nat.add_mul, show m / 128 * 128 + m % 128 = m from by omega]
      rw [ih (m / 128) (by omega) (i + 1) _ r (by omega) (by omega)]
      simp only [List.length_cons, Prod.mk.injEq, and_true]
      constructor
      · congr 1; omega
      · congr 1; omega
theorem dec_enc (m : Nat) (r : List Int) (h : m < 18446744073709551616) : dec (enc m ++ r) = ((m : Int), ((enc m).length : Int), 0) := by
  unfold dec
  rw [decA_enc m 0 0 r (by simpa using h) (by omega)]
  simp
/-- what a number read is, where one is -/
theorem decA_ok (l : List Int) : ∀ (i acc : Nat), (∀ x ∈ l, 0 ≤ x ∧ x < 256) → i ≤ 9 → acc < 2 ^ (7 * i) →
    (decA l i acc).2.2 = 0 ∧ 0 ≤ (decA l i acc).1 ∧ (decA l i acc).1 < 18446744073709551616 ∧ (i : Int) < (decA l i acc).2.1 ∧ (decA l i acc).2.1 ≤ i + l.length ∧ (decA l i acc).2.1 ≤ 10 ∨
    (decA l i acc).1 = 0 ∧ (decA l i acc).2.1 = 0 ∧ ((decA l i acc).2.2 = 21 ∨ (decA l i acc).2.2 = 22) := by
  induction l with
  | nil => intro i acc _ _ _; right; simp [decA]
  | cons c l ih =>
    intro i acc hb hi ha
    have hc := hb c (by simp)
    unfold decA
    by_cases h1 : i = 9 ∧ c > 1
    · rw [if_pos h1]; right; simp
    · rw [if_neg h1]
      by_cases h2 : c < 128
      · rw [if_pos h2]
        by_cases h3 : 0 < i ∧ c = 0
        · rw [if_pos h3]; right; simp
        · rw [if_neg h3]; left
          have h64 := acc_64 acc c.toNat i ha (by omega)
          simp only [List.length_cons]
          refine ⟨trivial, by omega, by omega, by omega, by omega, by omega⟩
      · rw [if_neg h2]
        have := ih (i + 1) (acc + c.toNat % 128 * 2 ^ (7 * i)) (fun x hx => hb x (by simp [hx])) (by omega) (acc_lt acc _ i ha)
        simp only [List.length_cons]
        rcases this with ⟨q1, q2, q3, q4, q5, q6⟩ | q
        · left; exact ⟨q1, q2, q3, by omega, by omega, q6⟩
        · right; exact q
theorem dec_ok (l : List Int) (hb : ∀ x ∈ l, 0 ≤ x ∧ x < 256) :
    (dec l).2.2 = 0 ∧ 0 ≤ (dec l).1 ∧ (dec l).1 < 18446744073709551616 ∧ 0 < (dec l).2.1 ∧ (dec l).2.1 ≤ l.length ∧ (dec l).2.1 ≤ 10 ∨
    (dec l).1 = 0 ∧ (dec l).2.1 = 0 ∧ ((dec l).2.2 = 21 ∨ (dec l).2.2 = 22) := by
  have := decA_ok l 0 0 hb (by omega) (by decide)
  unfold dec
  simpa using this
/-- bytes with their number ahead: which ones, how many were read, or why none -/
def decBytes (l : List Int) (most : Int) : List Int × Int × Int :=
  if (dec l).2.2 = 0 then (if (dec l).1 > max most 0 then ([], 0, 25) else if (dec l).1 > l.length - (dec l).2.1 then ([], 0, 22) else ((l.drop (dec l).2.1.toNat).take (dec l).1.toNat, (dec l).2.1 + (dec l).1, 0)) else ([], 0, (dec l).2.2)
def encBytes (b : List Int) : List Int := enc b.length ++ b
theorem decBytes_enc (b r : List Int) (most : Int) (hb : b.length < 18446744073709551616) :
    decBytes (encBytes b ++ r) most = if (b.length : Int) > max most 0 then ([], 0, 25) else (b, ((encBytes b).length : Int), 0) := by
  unfold decBytes encBytes
  rw [List.append_assoc, dec_enc b.length (b ++ r) hb]
  simp only [if_true, List.length_append]
  by_cases h : (b.length : Int) > max most 0
  · rw [if_pos h, if_pos h]
  · rw [if_neg h, if_neg h, if_neg (by omega), Int.toNat_natCast, Int.toNat_natCast, List.drop_left, List.take_left]
    simp
end Go.Proofs.Ytmaefdeigienjaa.Leb
