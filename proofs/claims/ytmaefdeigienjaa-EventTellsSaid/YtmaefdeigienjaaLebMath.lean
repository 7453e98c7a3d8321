/- Plain laws of the document's numbers as bytes: their form 'enc', its length, its order, that it comes back; and of texts made of bytes. -/
import Derived.Laws.BitsAllLaws
import Derived.RowKit
import Derived.Laws.BytesArg
import Derived.Lib.Bytes
namespace Go.Proofs.Ytmaefdeigienjaa.Leb
open Go.RowKit
/-- a number's bytes -/
def enc (n : Nat) : List Int := if n < 128 then [(n : Int)] else ((n % 128 + 128 : Nat) : Int) :: enc (n / 128)
termination_by n
decreasing_by omega
theorem enc_small (n : Nat) (h : n < 128) : enc n = [(n : Int)] := by unfold enc; rw [if_pos h]
theorem enc_big (n : Nat) (h : ¬ n < 128) : enc n = ((n % 128 + 128 : Nat) : Int) :: enc (n / 128) := by rw [enc]; rw [if_neg h]
theorem enc_pos (n : Nat) : 1 ≤ (enc n).length := by
  by_cases h : n < 128
  · rw [enc_small n h]; simp
  · rw [enc_big n h]; simp
theorem enc_len (k : Nat) : ∀ n, n < 128 ^ (k + 1) → (enc n).length ≤ k + 1 := by
  induction k with
  | zero => intro n h; rw [enc_small n (by simpa using h)]; simp
  | succ k ih =>
    intro n h
    by_cases h1 : n < 128
    · rw [enc_small n h1]; simp
    · rw [enc_big n h1]
      have := ih (n / 128) (by rw [Nat.div_lt_iff_lt_mul (by decide)]; rw [Nat.pow_succ] at h; exact h)
      simp only [List.length_cons]; omega
theorem enc_len10 (n : Nat) (h : n < 18446744073709551616) : (enc n).length ≤ 10 := enc_len 9 n (Nat.lt_of_lt_of_le h (by decide))
theorem enc_len_lt (k : Nat) : ∀ n, 128 ^ k ≤ n → k < (enc n).length := by
  induction k with
  | zero => intro n _; exact enc_pos n
  | succ k ih =>
    intro n h
    have h1 : ¬ n < 128 := by
      have : 128 ^ 1 ≤ 128 ^ (k + 1) := Nat.pow_le_pow_right (by decide) (by omega)
      simp at this; omega
    rw [enc_big n h1]
    have := ih (n / 128) (by rw [Nat.le_div_iff_mul_le (by decide)]; rw [Nat.pow_succ] at h; exact h)
    simp only [List.length_cons]; omega
theorem enc_byte (n : Nat) : ∀ x ∈ enc n, 0 ≤ x ∧ x < 256 := by
  induction n using Nat.strongRecOn with
  | _ n ih =>
    by_cases h : n < 128
    · rw [enc_small n h]; intro x hx; simp at hx; omega
    · rw [enc_big n h]; intro x hx
      rcases List.mem_cons.1 hx with rfl | hx
      · omega
      · exact ih (n / 128) (by omega) x hx
theorem enc_mono (m n : Nat) (h : m ≤ n) : (enc m).length ≤ (enc n).length := by
  induction n using Nat.strongRecOn generalizing m with
  | _ n ih =>
    by_cases h1 : m < 128
    · rw [enc_small m h1]; exact enc_pos n
    · rw [enc_big m h1, enc_big n (by omega)]
      have := ih (n / 128) (by omega) (m / 128) (Nat.div_le_div_right h)
      simp only [List.length_cons]; omega
/-- the number that bytes tell -/
def val : List Int → Nat
  | [] => 0
  | x :: l => x.toNat % 128 + 128 * val l
theorem val_enc (n : Nat) : val (enc n) = n := by
  induction n using Nat.strongRecOn with
  | _ n ih =>
    by_cases h : n < 128
    · rw [enc_small n h]; simp [val]; omega
    · rw [enc_big n h]; simp only [val]; rw [ih (n / 128) (by omega), Int.toNat_natCast]; omega
theorem enc_inj {m n : Nat} (h : enc m = enc n) : m = n := by have := congrArg val h; rwa [val_enc, val_enc] at this
/-- texts made of bytes are alike just where the bytes are -/
theorem str_eq {a b : List Int} (ha : ∀ x ∈ a, 0 ≤ x ∧ x < 256) (hb : ∀ x ∈ b, 0 ≤ x ∧ x < 256) (h : (strOfNums a).toList = (strOfNums b).toList) : a = b := by
  rw [Lib.strOfNums_toList, Lib.strOfNums_toList] at h
  have key : ∀ (a b : List Int), (∀ x ∈ a, 0 ≤ x ∧ x < 256) → (∀ x ∈ b, 0 ≤ x ∧ x < 256) → a.map (fun n => UInt8.ofNat n.toNat) = b.map (fun n => UInt8.ofNat n.toNat) → a = b := by
    intro a
    induction a with
    | nil => intro b _ _ h; cases b with
      | nil => rfl
      | cons => simp at h
    | cons x a ih => intro b ha hb h; cases b with
      | nil => simp at h
      | cons y b =>
        simp only [List.map_cons, List.cons.injEq] at h
        have hx := ha x (by simp)
        have hy := hb y (by simp)
        have h1 := congrArg UInt8.toNat h.1
        rw [UInt8.toNat_ofNat', UInt8.toNat_ofNat', Nat.mod_eq_of_lt (by omega), Nat.mod_eq_of_lt (by omega)] at h1
        rw [show x = y by omega, ih b (fun z hz => ha z (by simp [hz])) (fun z hz => hb z (by simp [hz])) h.2]
  exact key a b ha hb h
theorem str_iff {a b : List Int} (ha : ∀ x ∈ a, 0 ≤ x ∧ x < 256) (hb : ∀ x ∈ b, 0 ≤ x ∧ x < 256) : ((strOfNums a).toList == (strOfNums b).toList) = decide (a = b) := by
  by_cases h : a = b
  · subst h; simp
  · rw [decide_eq_false h]
    cases e : ((strOfNums a).toList == (strOfNums b).toList) with
    | false => rfl
    | true => exact absurd (str_eq ha hb (beq_iff_eq.1 e)) h
theorem or128 (a : Int) : bits .or .u8 (a % 256) 128 = a % 128 + 128 := by
  rw [u8_or (a % 256) 128 (by omega) (by omega) (by decide) (by decide)]
  have h : ∀ m : Nat, m < 256 → m ||| 128 = m % 128 + 128 := by decide +kernel
  have h2 := h (a % 256).toNat (by omega)
  rw [show (128 : Int).toNat = 128 from rfl, h2]; omega
end Go.Proofs.Ytmaefdeigienjaa.Leb
