/- The printed functions of package leb come to the plain ones: Put to 'enc', Read to 'dec'; for every 64-bit number and all bytes. -/
import Derived.Test.YtmaefdeigienjaaQEventTellsx12
import Derived.Test.YtmaefdeigienjaaDecMath
namespace Go.Proofs.Ytmaefdeigienjaa.QEventTells
open Go.RowKit Go.Proofs.YtmaefdeigienjaaW.PrintWords Go.Proofs.YtmaefdeigienjaaW.PrintLast Go.Proofs.YtmaefdeigienjaaW.PrintMore
theorem put_l0 (k : Nat) : ∀ (n : Nat) (acc : List Int), n < 18446744073709551616 → (Leb.enc n).length ≤ k → acc.length + (Leb.enc n).length ≤ 140737488355328 →
    leb_Put.l0 k (n : Int) acc = some (acc ++ Leb.enc n) := by
  induction k with
  | zero => intro n acc _ h _; have := Leb.enc_pos n; omega
  | succ k ih =>
    intro n acc hn hk hl
    have hp := Leb.enc_pos n
    simp only [leb_Put.l0]
    by_cases h : n < 128
    · rw [if_neg (by omega), if_pos (by omega), Leb.enc_small n h, show (n : Int) % 256 = n from by omega]
    · rw [Leb.enc_big n h] at hk hl ⊢
      simp only [List.length_cons] at hk hl
      rw [if_pos (by omega), if_pos (by omega), Leb.or128, show (n : Int) / 128 = ((n / 128 : Nat) : Int) from by omega, show (n : Int) % 128 + 128 = ((n % 128 + 128 : Nat) : Int) from by omega,
        ih (n / 128) _ (by omega) (by omega) (by simp only [List.length_append, List.length_cons, List.length_nil]; omega)]
      simp
theorem put_f (k : Nat) (n : Int) (h0 : 0 ≤ n) (h : n ≤ 18446744073709551615) (hk : 10 ≤ k) : leb_Put.f k n = some (Leb.enc n.toNat) := by
  have h10 := Leb.enc_len10 n.toNat (by omega)
  have := put_l0 k n.toNat [] (by omega) (by omega) (by simp only [List.length_nil]; omega)
  rw [show ((n.toNat : Nat) : Int) = n from by omega] at this
  simpa [leb_Put.f] using this
theorem rd_drop (l : List Int) (i : Nat) (c : Int) (r : List Int) (h : l.drop i = c :: r) : rd l (i : Int) = c ∧ l.drop (i + 1) = r ∧ i < l.length := by
  have hlt : i < l.length := by
    rcases Nat.lt_or_ge i l.length with h1 | h1
    · exact h1
    · rw [List.drop_of_length_le h1] at h; cases h
  rw [List.drop_eq_getElem_cons hlt] at h
  injection h with h1 h2
  refine ⟨?_, h2, hlt⟩
  unfold rd
  rw [Int.toNat_natCast, List.getD_eq_getElem?_getD, List.getElem?_eq_getElem hlt]
  exact h1
theorem or_step (acc i : Nat) (c : Int) (hc : 0 ≤ c ∧ c < 256) (hi : i ≤ 9) (ha : acc < 2 ^ (7 * i)) (h1 : ¬ (i = 9 ∧ c > 1)) :
    Go.bits .or .u64 (acc : Int) (shl .u64 (IntKind.u64.wrap (Go.bits .andNot .u8 c 128)) (wrap64 (7 * (i : Int)))) = ((acc + c.toNat % 128 * 2 ^ (7 * i) : Nat) : Int) := by
  have h64 := Leb.acc_64 acc c.toNat i ha (by omega)
  have es := Leb.shl_step c i hc.1 hc.2 hi (by
    have : c % 128 * 2 ^ (7 * i) = ((c.toNat % 128 * 2 ^ (7 * i) : Nat) : Int) := by push_cast; rw [Int.toNat_of_nonneg hc.1]
    rw [this]; omega)
  rw [Zig.w64_id (7 * (i : Int)) (by clear es h64; omega) (by clear es h64; omega)]
  unfold shl
  rw [show IntKind.u64.bits = 64 from rfl, es]
  exact Leb.or_hi acc _ _ ha h64
theorem read_l0 (l : List Int) (r : List Int) : ∀ (i acc k : Nat), l.drop i = r → (∀ x ∈ r, 0 ≤ x ∧ x < 256) → i ≤ 9 → i ≤ l.length → acc < 2 ^ (7 * i) → 20 ≤ k + 2 * i →
    leb_Read.l0 k l (acc : Int) (i : Int) = some (Leb.decA r i acc) := by
  induction r with
  | nil =>
    intro i acc k hd _ hi hil _ hk
    obtain ⟨k, rfl⟩ : ∃ m, k = m + 1 := ⟨k - 1, by omega⟩
    have : l.length ≤ i := by simpa using hd
    simp only [leb_Read.l0]
    rw [if_pos (by omega), if_pos (by omega), Leb.decA]
  | cons c r ih =>
    intro i acc k hd hb hi hil ha hk
    obtain ⟨k, rfl⟩ : ∃ m, k = m + 1 + 1 := ⟨k - 2, by omega⟩
    obtain ⟨e1, e2, e3⟩ := rd_drop l i c r hd
    have hc := hb c (by simp)
    have ej : leb_Read.l0 (k + 1 + 1) l (acc : Int) (i : Int) = leb_Read.j1 (k + 1) l (acc : Int) (i : Int) c (i : Int) (decide (i = 9 ∧ c > 1)) := by
      rw [leb_Read.l0, if_pos (by omega), if_neg (by omega), if_pos (by omega), if_pos (by omega), e1]
      by_cases h9 : i = 9
      · rw [if_pos (by omega)]; congr 1; simp [h9]
      · rw [if_neg (by omega)]; congr 1; simp [h9]
    rw [ej, leb_Read.j1, Leb.decA]
    by_cases h1 : i = 9 ∧ c > 1
    · rw [if_pos (by simp [h1]), if_pos h1]
    · have ew : wrap64 (7 * (i : Int)) = 7 * (i : Int) := Zig.w64_id _ (by omega) (by omega)
      have ei : wrap64 ((i : Int) + 1) = ((i + 1 : Nat) : Int) := by rw [Zig.w64_id _ (by omega) (by omega)]; omega
      have eo := or_step acc i c hc hi ha h1
      rw [eo, ei]
      clear eo ei
      have hneg : ¬ (decide (i = 9 ∧ c > 1) = true) := by simpa using h1
      have hpos : (0 : Int) ≤ wrap64 (7 * (i : Int)) := by rw [ew]; omega
      rw [if_neg hneg, if_neg h1, if_pos hpos]
      by_cases h2 : c < 128
      · rw [if_pos h2, if_pos h2]
        by_cases h3 : 0 < i ∧ c = 0
        · rw [if_pos (by omega), if_pos h3.2, if_pos h3]
        · rw [if_neg h3]
          by_cases h4 : (i : Int) > 0
          · rw [if_pos h4, if_neg (by omega)]
          · rw [if_neg h4]
      · have h9 : i ≤ 8 := by omega
        rw [if_neg h2, if_neg h2]
        exact ih (i + 1) _ k e2 (fun x hx => hb x (by simp [hx])) (by omega) (by omega) (Leb.acc_lt acc _ i ha) (by omega)
theorem read_f (k : Nat) (l : List Int) (hb : ∀ x ∈ l, 0 ≤ x ∧ x < 256) (hk : 20 ≤ k) : leb_Read.f k l = some (Leb.dec l) := by
  have := read_l0 l l 0 0 k rfl hb (by omega) (by omega) (by decide) (by omega)
  exact this
end Go.Proofs.Ytmaefdeigienjaa.QEventTells
