/- The document's Put and Read come to the plain ones. -/
import Derived.Test.YtmaefdeigienjaaLebFns2EventReads
namespace Go.Proofs.Ytmaefdeigienjaa.QEventReads
open Go.RowKit Go.Proofs.YtmaefdeigienjaaW.PrintWords Go.Proofs.YtmaefdeigienjaaW.PrintLast Go.Proofs.YtmaefdeigienjaaW.PrintMore
theorem and127 (c : Int) (h0 : 0 ≤ c) (h1 : c < 256) : Go.bits .and .u8 c 127 = Go.bits .andNot .u8 c 128 := by
  rw [Leb.andNot128 c h0 h1, u8_and c 127 h0 h1 (by decide) (by decide)]
  have h : ∀ m : Nat, m < 256 → m &&& 127 = m % 128 := by decide +kernel
  rw [show (127 : Int).toNat = 127 from rfl, h c.toNat (by omega)]; omega
theorem rread_l0 (l : List Int) (r : List Int) : ∀ (i acc k : Nat), l.drop i = r → (∀ x ∈ r, 0 ≤ x ∧ x < 256) → i ≤ 9 → i ≤ l.length → acc < 2 ^ (7 * i) → 20 ≤ k + 2 * i →
    repriseref1_Read.l0 k l (acc : Int) (i : Int) = some (Leb.decA r i acc) := by
  induction r with
  | nil =>
    intro i acc k hd _ hi hil _ hk
    obtain ⟨k, rfl⟩ : ∃ m, k = m + 1 := ⟨k - 1, by omega⟩
    have : l.length ≤ i := by simpa using hd
    rw [repriseref1_Read.l0, if_neg (by omega), Leb.decA]
  | cons c r ih =>
    intro i acc k hd hb hi hil ha hk
    obtain ⟨k, rfl⟩ : ∃ m, k = m + 1 + 1 := ⟨k - 2, by omega⟩
    obtain ⟨e1, e2, e3⟩ := rd_drop l i c r hd
    have hc := hb c (by simp)
    have p1 : (i : Int) < (l.length : Int) := by omega
    have p2 : (0 : Int) ≤ (i : Int) := Int.natCast_nonneg i
    have ej : repriseref1_Read.l0 (k + 1 + 1) l (acc : Int) (i : Int) = repriseref1_Read.j1 (k + 1) l (acc : Int) (i : Int) (decide (i = 9 ∧ c > 1)) := by
      rw [repriseref1_Read.l0, if_pos p1]
      by_cases h9 : i = 9
      · rw [if_pos (by omega), if_pos p2, e1]; congr 1; simp [h9]
      · rw [if_neg (by omega)]; congr 1; simp [h9]
    rw [ej, repriseref1_Read.j1, Leb.decA]
    by_cases h1 : i = 9 ∧ c > 1
    · rw [if_pos (by simp [h1]), if_pos h1]
    · have ew : wrap64 (7 * (i : Int)) = 7 * (i : Int) := Zig.w64_id _ (by omega) (by omega)
      have ei : wrap64 ((i : Int) + 1) = ((i + 1 : Nat) : Int) := by rw [Zig.w64_id _ (by omega) (by omega)]; omega
      have eo := or_step acc i c hc hi ha h1
      rw [e1, and127 c hc.1 hc.2, eo, ei]
      clear eo ei
      have hneg : ¬ (decide (i = 9 ∧ c > 1) = true) := by simpa using h1
      have hpos : (0 : Int) ≤ wrap64 (7 * (i : Int)) := by rw [ew]; omega
      rw [if_neg hneg, if_neg h1, if_pos p2, if_pos p1, if_pos hpos]
      by_cases h2 : c < 128
      · rw [if_pos h2, if_pos h2]
        by_cases h3 : 0 < i ∧ c = 0
        · rw [if_pos (by omega), if_pos h3.2, if_pos h3]
        · rw [if_neg h3]
          by_cases h4 : (i : Int) > 0
          · rw [if_pos h4, if_neg (by omega)]
          · rw [if_neg h4]
      · have h9 : i ≤ 8 := by omega
        rw [if_neg h2, if_neg h2]
        exact ih (i + 1) _ k e2 (fun x hx => hb x (by simp [hx])) (by omega) (by omega) (Leb.acc_lt acc _ i ha) (by omega)
theorem rread_f (k : Nat) (l : List Int) (hb : ∀ x ∈ l, 0 ≤ x ∧ x < 256) (hk : 20 ≤ k) : repriseref1_Read.f k l = some (Leb.dec l) := by
  have := rread_l0 l l 0 0 k rfl hb (by omega) (by omega) (by decide) (by omega)
  exact this
theorem rput_l0 (k : Nat) : ∀ (n : Nat) (acc : List Int), n < 18446744073709551616 → (Leb.enc n).length ≤ k → acc.length + (Leb.enc n).length ≤ 140737488355328 →
    repriseref1_Put.l0 k (n : Int) acc = some (acc ++ Leb.enc n) := by
  induction k with
  | zero => intro n acc _ h _; have := Leb.enc_pos n; omega
  | succ k ih =>
    intro n acc hn hk hl
    have hp := Leb.enc_pos n
    simp only [repriseref1_Put.l0]
    by_cases h : n < 128
    · rw [if_neg (by omega), if_pos (by omega), Leb.enc_small n h, show (n : Int) % 256 = n from by omega]
    · rw [Leb.enc_big n h] at hk hl ⊢
      simp only [List.length_cons] at hk hl
      rw [if_pos (by omega), if_pos (by omega), Leb.or128, show (n : Int) / 128 = ((n / 128 : Nat) : Int) from by omega, show (n : Int) % 128 + 128 = ((n % 128 + 128 : Nat) : Int) from by omega,
        ih (n / 128) _ (by omega) (by omega) (by simp only [List.length_append, List.length_cons, List.length_nil]; omega)]
      simp
theorem rput_f (k n : Nat) (hk : 10 ≤ k) (h : n < 18446744073709551616) : repriseref1_Put.f k (n : Int) = some (Leb.enc n) := by
  have h10 := Leb.enc_len10 n h
  have := rput_l0 k n [] h (by omega) (by simp only [List.length_nil]; omega)
  simpa [repriseref1_Put.f] using this
theorem rreadBytes_f (k : Nat) (l : List Int) (most : Int) (hl : l.length < 140737488355328) (hb : ∀ x ∈ l, 0 ≤ x ∧ x < 256) (h0 : -9223372036854775808 ≤ most) (h1 : most < 9223372036854775808) (hk : 20 ≤ k) :
    repriseref1_ReadBytes.f k l most = some (Leb.decBytes l most) := by
  unfold repriseref1_ReadBytes.f Leb.decBytes
  rw [rread_f k l hb hk, Option.bind_some]
  have hd := Leb.dec_ok l hb
  rcases hd with ⟨d1, d2, d3, d4, d5, d6⟩ | ⟨_, _, d⟩
  · rw [if_pos d1, if_pos d1]
    have e1 : IntKind.u64.wrap (mx most 0) = max most 0 := by rw [mx_eq, Zig.u64w]; omega
    have e2 : IntKind.u64.wrap (wrap64 ((l.length : Int) - (Leb.dec l).2.1)) = l.length - (Leb.dec l).2.1 := by rw [Zig.w64_id _ (by omega) (by omega), Zig.u64w]; omega
    rw [e1, e2]
    by_cases h2 : (Leb.dec l).1 > max most 0
    · rw [if_pos h2, if_pos h2]
    · rw [if_neg h2, if_neg h2]
      by_cases h3 : (Leb.dec l).1 > l.length - (Leb.dec l).2.1
      · rw [if_pos h3, if_pos h3]
      · have e3 : wrap64 ((Leb.dec l).2.1 + wrap64 (Leb.dec l).1) = (Leb.dec l).2.1 + (Leb.dec l).1 := by rw [Zig.w64_id (Leb.dec l).1 (by omega) (by omega), Zig.w64_id _ (by omega) (by omega)]
        rw [if_neg h3, if_neg h3, e3, if_pos (by omega), if_pos (by omega), if_pos (by omega)]
        have e4 : (l.take ((Leb.dec l).2.1 + (Leb.dec l).1).toNat).drop (Leb.dec l).2.1.toNat = (l.drop (Leb.dec l).2.1.toNat).take (Leb.dec l).1.toNat := by
          rw [List.drop_take]; congr 1; omega
        rw [e4]
  · rw [if_neg (by omega), if_neg (by omega)]
theorem rputBytes_f (k : Nat) (l : List Int) (hl : l.length < 140737488350000) (hk : 10 ≤ k) : repriseref1_PutBytes.f k l = some (Leb.encBytes l) := by
  unfold repriseref1_PutBytes.f Leb.encBytes
  have e : IntKind.u64.wrap (l.length : Int) = ((l.length : Nat) : Int) := by rw [Zig.u64w]; omega
  have h10 := Leb.enc_len10 l.length (by omega)
  rw [e, rput_f k _ hk (by omega), Option.bind_some, if_pos (by omega)]
end Go.Proofs.Ytmaefdeigienjaa.QEventReads
