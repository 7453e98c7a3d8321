/- Lean functions for the Go functions that the law reaches, and proofs that each call comes to just what its Lean function tells; no condition. (Written by a program of this session.) -/
import Derived.Test.YtmaefdeigienjaaQDeltaTellsx0
import Derived.Test.YtmaefdeigienjaaQDeltaTellsx1
import Derived.Test.YtmaefdeigienjaaQDeltaTellsx2
import Derived.Test.YtmaefdeigienjaaQDeltaTellsx3
import Derived.Test.YtmaefdeigienjaaQDeltaTellsx4
import Derived.Test.YtmaefdeigienjaaQDeltaTellsx5
namespace Go.Proofs.Ytmaefdeigienjaa.QDeltaTells
open Go.RowKit Go.Proofs.YtmaefdeigienjaaW.PrintWords Go.Proofs.YtmaefdeigienjaaW.PrintLast Go.Proofs.YtmaefdeigienjaaW.PrintMore
attribute [local go_sem] max2_int min2_int max_two min_two max_three min_three max_four min_four   -- for this text's walks alone
set_option linter.unusedVariables false
set_option linter.unusedSimpArgs false

/-! ### repriselaw5_DeltaTells: function 7 -/
theorem put_l0 (k : Nat) : ∀ (n : Nat) (acc : List Int), n < 18446744073709551616 → (Leb.enc n).length ≤ k → acc.length + (Leb.enc n).length ≤ 140737488355328 →
    leb_Put.l0 k (n : Int) acc = some (acc ++ Leb.enc n) := by
  induction k with
  | zero => intro n acc _ h _; have := Leb.enc_pos n; omega
  | succ k ih =>
    intro n acc hn hk hl
    have hp := Leb.enc_pos n
    simp only [leb_Put.l0]
    by_cases h : n < 128
    · rw [if_neg (by omega), if_pos (by omega), Leb.enc_small n h, show (n : Int) % 256 = n from by omega]
    · rw [Leb.enc_big n h] at hk hl ⊢
      simp only [List.length_cons] at hk hl
      rw [if_pos (by omega), if_pos (by omega), Leb.or128, show (n : Int) / 128 = ((n / 128 : Nat) : Int) from by omega, show (n : Int) % 128 + 128 = ((n % 128 + 128 : Nat) : Int) from by omega,
        ih (n / 128) _ (by omega) (by omega) (by simp only [List.length_append, List.length_cons, List.length_nil]; omega)]
      simp
theorem put_f (k : Nat) (n : Int) (h0 : 0 ≤ n) (h : n ≤ 18446744073709551615) (hk : 10 ≤ k) : leb_Put.f k n = some (Leb.enc n.toNat) := by
  have h10 := Leb.enc_len10 n.toNat (by omega)
  have := put_l0 k n.toNat [] (by omega) (by omega) (by simp only [List.length_nil]; omega)
  rw [show ((n.toNat : Nat) : Int) = n from by omega] at this
  simpa [leb_Put.f] using this
theorem rd_drop (l : List Int) (i : Nat) (c : Int) (r : List Int) (h : l.drop i = c :: r) : rd l (i : Int) = c ∧ l.drop (i + 1) = r ∧ i < l.length := by
  have hlt : i < l.length := by
    rcases Nat.lt_or_ge i l.length with h1 | h1
    · exact h1
    · rw [List.drop_of_length_le h1] at h; cases h
  rw [List.drop_eq_getElem_cons hlt] at h
  injection h with h1 h2
  refine ⟨?_, h2, hlt⟩
  unfold rd
  rw [Int.toNat_natCast, List.getD_eq_getElem?_getD, List.getElem?_eq_getElem hlt]
  exact h1
theorem or_step (acc i : Nat) (c : Int) (hc : 0 ≤ c ∧ c < 256) (hi : i ≤ 9) (ha : acc < 2 ^ (7 * i)) (h1 : ¬ (i = 9 ∧ c > 1)) :
    Go.bits .or .u64 (acc : Int) (shl .u64 (IntKind.u64.wrap (Go.bits .andNot .u8 c 128)) (wrap64 (7 * (i : Int)))) = ((acc + c.toNat % 128 * 2 ^ (7 * i) : Nat) : Int) := by
  have h64 := Leb.acc_64 acc c.toNat i ha (by omega)
  have es := Leb.shl_step c i hc.1 hc.2 hi (by
    have : c % 128 * 2 ^ (7 * i) = ((c.toNat % 128 * 2 ^ (7 * i) : Nat) : Int) := by push_cast; rw [Int.toNat_of_nonneg hc.1]
    rw [this]; omega)
  rw [Zig.w64_id (7 * (i : Int)) (by clear es h64; omega) (by clear es h64; omega)]
  unfold shl
  rw [show IntKind.u64.bits = 64 from rfl, es]
  exact Leb.or_hi acc _ _ ha h64
theorem read_l0 (l : List Int) (r : List Int) : ∀ (i acc k : Nat), l.drop i = r → (∀ x ∈ r, 0 ≤ x ∧ x < 256) → i ≤ 9 → i ≤ l.length → acc < 2 ^ (7 * i) → 20 ≤ k + 2 * i →
    leb_Read.l0 k l (acc : Int) (i : Int) = some (Leb.decA r i acc) := by
  induction r with
  | nil =>
    intro i acc k hd _ hi hil _ hk
    obtain ⟨k, rfl⟩ : ∃ m, k = m + 1 := ⟨k - 1, by omega⟩
    have : l.length ≤ i := by simpa using hd
    simp only [leb_Read.l0]
    rw [if_pos (by omega), if_pos (by omega), Leb.decA]
  | cons c r ih =>
    intro i acc k hd hb hi hil ha hk
    obtain ⟨k, rfl⟩ : ∃ m, k = m + 1 + 1 := ⟨k - 2, by omega⟩
    obtain ⟨e1, e2, e3⟩ := rd_drop l i c r hd
    have hc := hb c (by simp)
    have ej : leb_Read.l0 (k + 1 + 1) l (acc : Int) (i : Int) = leb_Read.j1 (k + 1) l (acc : Int) (i : Int) c (i : Int) (decide (i = 9 ∧ c > 1)) := by
      rw [leb_Read.l0, if_pos (by omega), if_neg (by omega), if_pos (by omega), if_pos (by omega), e1]
      by_cases h9 : i = 9
      · rw [if_pos (by omega)]; congr 1; simp [h9]
      · rw [if_neg (by omega)]; congr 1; simp [h9]
    rw [ej, leb_Read.j1, Leb.decA]
    by_cases h1 : i = 9 ∧ c > 1
    · rw [if_pos (by simp [h1]), if_pos h1]
    · have ew : wrap64 (7 * (i : Int)) = 7 * (i : Int) := Zig.w64_id _ (by omega) (by omega)
      have ei : wrap64 ((i : Int) + 1) = ((i + 1 : Nat) : Int) := by rw [Zig.w64_id _ (by omega) (by omega)]; omega
      have eo := or_step acc i c hc hi ha h1
      rw [eo, ei]
      clear eo ei
      have hneg : ¬ (decide (i = 9 ∧ c > 1) = true) := by simpa using h1
      have hpos : (0 : Int) ≤ wrap64 (7 * (i : Int)) := by rw [ew]; omega
      rw [if_neg hneg, if_neg h1, if_pos hpos]
      by_cases h2 : c < 128
      · rw [if_pos h2, if_pos h2]
        by_cases h3 : 0 < i ∧ c = 0
        · rw [if_pos (by omega), if_pos h3.2, if_pos h3]
        · rw [if_neg h3]
          by_cases h4 : (i : Int) > 0
          · rw [if_pos h4, if_neg (by omega)]
          · rw [if_neg h4]
      · have h9 : i ≤ 8 := by omega
        rw [if_neg h2, if_neg h2]
        exact ih (i + 1) _ k e2 (fun x hx => hb x (by simp [hx])) (by omega) (by omega) (Leb.acc_lt acc _ i ha) (by omega)
theorem read_f (k : Nat) (l : List Int) (hb : ∀ x ∈ l, 0 ≤ x ∧ x < 256) (hk : 20 ≤ k) : leb_Read.f k l = some (Leb.dec l) := by
  have := read_l0 l l 0 0 k rfl hb (by omega) (by omega) (by decide) (by omega)
  exact this
theorem dread_even (k n : Nat) (r : List Int) (hk : 20 ≤ k) (h1 : 1 ≤ n) (h2 : n ≤ 1000000) (hb : ∀ x ∈ r, 0 ≤ x ∧ x < 256) :
    delta_read.f k (Leb.enc (2 * n) ++ r) = some ((n : Int), 0, false, ((Leb.enc (2 * n)).length : Int), 0) := by
  have hb2 : ∀ x ∈ Leb.enc (2 * n) ++ r, 0 ≤ x ∧ x < 256 := fun x hx => (List.mem_append.1 hx).elim (Leb.enc_byte _ x) (hb x)
  have ha : Go.bits .and .u64 ((2 * n : Nat) : Int) 1 = 0 := by rw [Zig.and_one_u64 _ (by omega) (by omega)]; omega
  have hd : ((2 * n : Nat) : Int) / 2 = (n : Int) := by omega
  unfold delta_read.f
  rw [read_f k _ hb2 hk, Leb.dec_enc _ _ (by omega), Option.bind_some]
  dsimp only
  rw [if_pos rfl, ha, if_neg (by decide), hd, if_neg (by omega)]
  rfl
theorem dread_odd (k n p : Nat) (r : List Int) (hk : 20 ≤ k) (h1 : 1 ≤ n) (h2 : n ≤ 1000000) (h3 : p ≤ 1000000) (hb : ∀ x ∈ r, 0 ≤ x ∧ x < 256) :
    delta_read.f k (Leb.enc (2 * n + 1) ++ (Leb.enc p ++ r)) = some ((n : Int), (p : Int), true, (((Leb.enc (2 * n + 1)).length + (Leb.enc p).length : Nat) : Int), 0) := by
  have hb1 : ∀ x ∈ Leb.enc p ++ r, 0 ≤ x ∧ x < 256 := fun x hx => (List.mem_append.1 hx).elim (Leb.enc_byte _ x) (hb x)
  have hb2 : ∀ x ∈ Leb.enc (2 * n + 1) ++ (Leb.enc p ++ r), 0 ≤ x ∧ x < 256 := fun x hx => (List.mem_append.1 hx).elim (Leb.enc_byte _ x) (hb1 x)
  have ha : Go.bits .and .u64 ((2 * n + 1 : Nat) : Int) 1 = 1 := by rw [Zig.and_one_u64 _ (by omega) (by omega)]; omega
  have hd : ((2 * n + 1 : Nat) : Int) / 2 = (n : Int) := by omega
  have e1 := Leb.enc_len10 (2 * n + 1) (by omega)
  have e2 := Leb.enc_len10 p (by omega)
  have hw : wrap64 (((Leb.enc (2 * n + 1)).length : Int) + ((Leb.enc p).length : Int)) = (((Leb.enc (2 * n + 1)).length + (Leb.enc p).length : Nat) : Int) := by rw [Zig.w64_id _ (by omega) (by omega)]; omega
  unfold delta_read.f
  rw [read_f k _ hb2 hk, Leb.dec_enc _ _ (by omega), Option.bind_some]
  dsimp only
  rw [if_pos rfl, ha, if_pos rfl, if_pos (by omega), if_pos (by simp only [List.length_append]; omega), Int.toNat_natCast, List.drop_left, read_f k _ hb1 hk, Leb.dec_enc _ _ (by omega), Option.bind_some]
  dsimp only
  rw [if_pos rfl, hd, if_neg (by omega), hw]
  rfl
theorem room_eq (most : Int) (o : List Int) (h1 : -9223372036854775808 ≤ most) (h2 : most < 9223372036854775808) (h : (o.length : Int) ≤ max most 0) (hl : o.length ≤ 140737488355328) : IntKind.u64.wrap (wrap64 ((mx most 0) - (o.length : Int))) = max most 0 - o.length := by
  have hm : mx most 0 = max most 0 := by unfold mx; split <;> omega
  rw [hm, Zig.w64_id _ (by omega) (by omega), Zig.u64w]
  omega
/-- a part for which there is room -/
theorem apply_part (k : Nat) (old : List Int) (p : DeltaM.Part) (r : List Int) (most : Int) (o : List Int) (hk : 20 ≤ k) (hp : DeltaM.pok old p) (hold : old.length ≤ 100000) (hlen : (DeltaM.pval old p).length ≤ 100000) (hr : ∀ x ∈ r, 0 ≤ x ∧ x < 256) (hrl : r.length ≤ 100000000)
    (h1 : -9223372036854775808 ≤ most) (h2 : most < 9223372036854775808) (hl : o.length ≤ 1000000000) (h : (o.length : Int) + (DeltaM.pval old p).length ≤ max most 0) :
    delta_Apply.l0 (k + 2) old (DeltaM.pbytes p ++ r) most o = delta_Apply.l0 k old r most (o ++ DeltaM.pval old p) := by
  have hroom := room_eq most o h1 h2 (by omega) (by omega)
  rcases p with xs | ⟨n, q⟩
  · obtain ⟨g1, g2⟩ := hp
    simp only [DeltaM.pval] at hlen h ⊢
    have e1 := Leb.enc_pos (2 * xs.length)
    have hbx : ∀ x ∈ xs ++ r, 0 ≤ x ∧ x < 256 := fun x hx => (List.mem_append.1 hx).elim (g2 x) (hr x)
    have hu : IntKind.u64.wrap (((xs ++ r).length : Nat) : Int) ≥ xs.length := by rw [Zig.u64w, List.length_append]; omega
    rw [show DeltaM.pbytes (.inl xs) ++ r = Leb.enc (2 * xs.length) ++ (xs ++ r) by simp [DeltaM.pbytes]]
    rw [delta_Apply.l0, if_pos (by simp only [List.length_append]; omega), dread_even (k + 1) xs.length (xs ++ r) (by omega) g1 (by omega) hbx, Option.bind_some]
    dsimp only
    rw [if_pos rfl, if_pos (by omega), if_pos (by simp only [List.length_append]; omega), Option.bind_some, Int.toNat_natCast, List.drop_left, hroom, if_neg (by omega), if_neg (by decide)]
    rw [delta_Apply.j1, if_neg (by decide), if_neg (by decide), if_neg (by omega), if_pos (by omega), if_pos (by simp only [List.length_append]; omega), Option.bind_some, Int.toNat_natCast, List.take_left, if_pos (by omega), List.drop_left]
  · obtain ⟨g1, g2⟩ := hp
    have hv : (DeltaM.pval old (.inr (n, q))).length = n := by simp only [DeltaM.pval, List.length_take, List.length_drop]; omega
    rw [hv] at hlen h
    have e1 := Leb.enc_pos (2 * n + 1)
    have hu : IntKind.u64.wrap ((old.length : Nat) : Int) = old.length := by rw [Zig.u64w]; omega
    have hu2 : IntKind.u64.wrap ((old.length : Int) - (q : Int)) = ((old.length - q : Nat) : Int) := by rw [Zig.u64w]; omega
    have hu3 : IntKind.u64.wrap ((q : Int) + (n : Int)) = ((q + n : Nat) : Int) := by rw [Zig.u64w]; omega
    have htd : (old.take (q + n)).drop q = (old.drop q).take n := by rw [List.drop_take]; congr 1; omega
    rw [show DeltaM.pbytes (.inr (n, q)) ++ r = Leb.enc (2 * n + 1) ++ (Leb.enc q ++ r) by simp [DeltaM.pbytes]]
    rw [delta_Apply.l0, if_pos (by simp only [List.length_append]; omega), dread_odd (k + 1) n q r (by omega) g1 (by omega) (by omega) hr, Option.bind_some]
    dsimp only
    rw [if_pos rfl, if_pos (by omega), if_pos (by simp only [List.length_append]; omega), Option.bind_some, Int.toNat_natCast]
    rw [show (Leb.enc (2 * n + 1) ++ (Leb.enc q ++ r)).drop ((Leb.enc (2 * n + 1)).length + (Leb.enc q).length) = r by rw [← List.drop_drop, List.drop_left, List.drop_left]]
    rw [hroom, if_neg (by omega), if_pos rfl, hu, if_neg (by omega), hu2, decide_eq_false (by omega)]
    rw [delta_Apply.j1, if_neg (by decide), if_pos rfl, if_pos (by omega), hu3, if_pos (by omega), if_pos (by omega), Int.toNat_natCast, Int.toNat_natCast, htd, if_pos (by have : ((old.drop q).take n).length = n := hv; omega)]
    rfl
/-- a part for which there is none -/
theorem apply_part_long (k : Nat) (old : List Int) (p : DeltaM.Part) (r : List Int) (most : Int) (o : List Int) (hk : 20 ≤ k) (hp : DeltaM.pok old p) (hold : old.length ≤ 100000) (hlen : (DeltaM.pval old p).length ≤ 100000) (hr : ∀ x ∈ r, 0 ≤ x ∧ x < 256)
    (h1 : -9223372036854775808 ≤ most) (h2 : most < 9223372036854775808) (hl : o.length ≤ 1000000000) (h0 : (o.length : Int) ≤ max most 0) (h : (o.length : Int) + (DeltaM.pval old p).length > max most 0) :
    delta_Apply.l0 (k + 2) old (DeltaM.pbytes p ++ r) most o = some ([], 25) := by
  have hroom := room_eq most o h1 h2 (by omega) (by omega)
  rcases p with xs | ⟨n, q⟩
  · obtain ⟨g1, g2⟩ := hp
    simp only [DeltaM.pval] at hlen h
    have e1 := Leb.enc_pos (2 * xs.length)
    have hbx : ∀ x ∈ xs ++ r, 0 ≤ x ∧ x < 256 := fun x hx => (List.mem_append.1 hx).elim (g2 x) (hr x)
    rw [show DeltaM.pbytes (.inl xs) ++ r = Leb.enc (2 * xs.length) ++ (xs ++ r) by simp [DeltaM.pbytes]]
    rw [delta_Apply.l0, if_pos (by simp only [List.length_append]; omega), dread_even (k + 1) xs.length (xs ++ r) (by omega) g1 (by omega) hbx, Option.bind_some]
    dsimp only
    rw [if_pos rfl, if_pos (by omega), if_pos (by simp only [List.length_append]; omega), Option.bind_some, hroom, if_pos (by omega)]
  · obtain ⟨g1, g2⟩ := hp
    have hv : (DeltaM.pval old (.inr (n, q))).length = n := by simp only [DeltaM.pval, List.length_take, List.length_drop]; omega
    rw [hv] at hlen h
    have e1 := Leb.enc_pos (2 * n + 1)
    rw [show DeltaM.pbytes (.inr (n, q)) ++ r = Leb.enc (2 * n + 1) ++ (Leb.enc q ++ r) by simp [DeltaM.pbytes]]
    rw [delta_Apply.l0, if_pos (by simp only [List.length_append]; omega), dread_odd (k + 1) n q r (by omega) g1 (by omega) (by omega) hr, Option.bind_some]
    dsimp only
    rw [if_pos rfl, if_pos (by omega), if_pos (by simp only [List.length_append]; omega), Option.bind_some, hroom, if_pos (by omega)]
/-- parts, one behind the other -/
theorem apply_parts (old : List Int) (hold : old.length ≤ 100000) (r : List Int) (hr : ∀ x ∈ r, 0 ≤ x ∧ x < 256) (hrl : r.length ≤ 10000000) (most : Int) (h1 : -9223372036854775808 ≤ most) (h2 : most < 9223372036854775808) (k : Nat) (hk : 20 ≤ k) (ps : List DeltaM.Part) : ∀ (o : List Int),
    (∀ p ∈ ps, DeltaM.pok old p) → (ps.flatMap (DeltaM.pval old)).length ≤ 100000 → o.length + (ps.flatMap (DeltaM.pval old)).length ≤ 100000000 → (o.length : Int) ≤ max most 0 →
    delta_Apply.l0 (k + 2 * ps.length) old (ps.flatMap DeltaM.pbytes ++ r) most o = if (o.length : Int) + (ps.flatMap (DeltaM.pval old)).length ≤ max most 0 then delta_Apply.l0 k old r most (o ++ ps.flatMap (DeltaM.pval old)) else some ([], 25) := by
  induction ps with
  | nil => intro o _ _ _ h; simp only [List.flatMap_nil, List.length_nil, List.nil_append, List.append_nil]; rw [if_pos (by omega)]; rfl
  | cons p ps ih =>
    intro o hp hlen ho hroom
    have hp1 := hp p (by simp)
    have hp2 : ∀ q ∈ ps, DeltaM.pok old q := fun q hq => hp q (by simp [hq])
    simp only [List.flatMap_cons, List.length_append] at hlen ho ⊢
    have hbr : ∀ x ∈ ps.flatMap DeltaM.pbytes ++ r, 0 ≤ x ∧ x < 256 := fun x hx => (List.mem_append.1 hx).elim (DeltaM.parts_byte old ps hp2 x) (hr x)
    have hbl := DeltaM.parts_blen old hold ps hp2 (by omega)
    rw [List.append_assoc, show k + 2 * (p :: ps).length = (k + 2 * ps.length) + 2 by simp only [List.length_cons]; omega]
    by_cases hfit : (o.length : Int) + (DeltaM.pval old p).length ≤ max most 0
    · rw [apply_part (k + 2 * ps.length) old p _ most o (by omega) hp1 hold (by omega) hbr (by rw [List.length_append]; omega) h1 h2 (by omega) hfit]
      rw [ih (o ++ DeltaM.pval old p) hp2 (by omega) (by rw [List.length_append]; omega) (by rw [List.length_append]; omega)]
      simp only [List.length_append, List.append_assoc]
      by_cases hall : (o.length : Int) + ((DeltaM.pval old p).length + (ps.flatMap (DeltaM.pval old)).length) ≤ max most 0
      · rw [if_pos (by omega), if_pos (by omega)]
      · rw [if_neg (by omega), if_neg (by omega)]
    · rw [apply_part_long (k + 2 * ps.length) old p _ most o (by omega) hp1 hold (by omega) hbr h1 h2 (by omega) hroom (by omega), if_neg (by omega)]
theorem apply_end (k : Nat) (old : List Int) (most : Int) (o : List Int) : delta_Apply.l0 (k + 1) old [] most o = some (o, 0) := by
  rw [delta_Apply.l0, if_neg (by simp)]
/-- Make, told again -/
theorem make_f (old new : List Int) (h0 : old.length ≤ 100000) (h1 : new.length ≤ 100000) (hb0 : ∀ x ∈ old, 0 ≤ x ∧ x < 256) (hb1 : ∀ x ∈ new, 0 ≤ x ∧ x < 256) : delta_Make.f old new = some (DeltaM.make old new) := by
  unfold delta_Make.f
  rw [if_pos ⟨h0, h1, hb0, hb1⟩]
theorem twist_l0 (old l : List Int) (ho : old.length ≤ 1000) (hb : ∀ x ∈ old, 0 ≤ x ∧ x < 256) (hl : l.length ≤ 100) (hw : ∀ x ∈ l, 0 ≤ x ∧ x < 65536) : ∀ (m i : Nat) (o : List Int), i + m = l.length → o.length ≤ 12 * i → (∀ x ∈ o, 0 ≤ x ∧ x < 256) →
    ∃ r, (∀ k, m + 1 ≤ k → repriselaw5_twist.l0 k old l o (i : Int) = some r) ∧ r.length ≤ 12 * l.length ∧ ∀ x ∈ r, 0 ≤ x ∧ x < 256 := by
  intro m
  induction m with
  | zero =>
    intro i o h1 h2 h3
    refine ⟨o, fun k hk => ?_, by omega, h3⟩
    obtain ⟨k, rfl⟩ : ∃ j, k = j + 1 := ⟨k - 1, by omega⟩
    rw [repriselaw5_twist.l0, if_neg (by omega)]
  | succ m ih =>
    intro i o h1 h2 h3
    have hlt : i < l.length := by omega
    have hx := hw l[i] (List.getElem_mem hlt)
    have ew : wrap64 ((i : Int) + 1) = ((i + 1 : Nat) : Int) := by unfold wrap64; omega
    have hrd := DeltaM.rd_at l i hlt
    generalize l[i] = x at *
    have t1 : Int.tmod x 3 = x % 3 := Int.tmod_eq_emod_of_nonneg hx.1
    have t2 : IntKind.u16.wrap (Int.tdiv x 3) = x / 3 := by rw [Int.tdiv_eq_ediv_of_nonneg hx.1, IntKind.wrap_u16]; omega
    have t3 : IntKind.u16.wrap (Int.tdiv x 64) = x / 64 := by rw [Int.tdiv_eq_ediv_of_nonneg hx.1, IntKind.wrap_u16]; omega
    have t4 : wrap64 (x / 3) = x / 3 := Zig.w64_id _ (by omega) (by omega)
    have t5 : Int.tmod (x / 3) (old.length : Int) = x / 3 % old.length := Int.tmod_eq_emod_of_nonneg (by omega)
    have t6 : Int.tmod (x / 64) 12 = x / 64 % 12 := Int.tmod_eq_emod_of_nonneg (by omega)
    have t7 : wrap64 (x / 64 % 12) = x / 64 % 12 := Zig.w64_id _ (by omega) (by omega)
    have t8 : Int.tmod (x / 3) 4 = x / 3 % 4 := Int.tmod_eq_emod_of_nonneg (by omega)
    have hone : ∀ y : Int, 0 ≤ y → y < 256 → ∃ r, (∀ k, m + 1 ≤ k → repriselaw5_twist.l0 k old l (o ++ [y]) ((i + 1 : Nat) : Int) = some r) ∧ r.length ≤ 12 * l.length ∧ ∀ x ∈ r, 0 ≤ x ∧ x < 256 := fun y g1 g2 =>
      ih (i + 1) (o ++ [y]) (by omega) (by rw [List.length_append, List.length_singleton]; omega) (fun z hz => (List.mem_append.1 hz).elim (h3 z) (fun hz => by rw [List.mem_singleton.1 hz]; exact ⟨g1, g2⟩))
    by_cases c1 : 0 < old.length
    · by_cases c2 : x % 3 > 0
      · have g1 := Int.emod_nonneg (x / 3) (b := (old.length : Int)) (by omega)
        have g2 := Int.emod_lt_of_pos (x / 3) (b := (old.length : Int)) (by omega)
        generalize hat : x / 3 % (old.length : Int) = at_ at *
        have g3 : 0 ≤ x / 64 % 12 ∧ x / 64 % 12 < 12 := by omega
        generalize x / 64 % 12 = c at *
        have t9 : wrap64 (at_ + c) = at_ + c := Zig.w64_id _ (by omega) (by omega)
        obtain ⟨hi, hhi⟩ : ∃ hi, mn (old.length : Int) (at_ + c) = hi := ⟨_, rfl⟩
        have g4 : at_ ≤ hi ∧ hi ≤ old.length ∧ hi ≤ at_ + 12 := by rw [← hhi]; unfold mn; split <;> omega
        have g5 : ((old.take hi.toNat).drop at_.toNat).length ≤ 12 := by rw [List.length_drop, List.length_take]; omega
        obtain ⟨r, r1, r2, r3⟩ := ih (i + 1) (o ++ (old.take hi.toNat).drop at_.toNat) (by omega) (by rw [List.length_append]; omega) (fun z hz => (List.mem_append.1 hz).elim (h3 z) (fun hz => hb z (List.mem_of_mem_take (List.mem_of_mem_drop hz))))
        refine ⟨r, fun k hk => ?_, r2, r3⟩
        obtain ⟨k, rfl⟩ : ∃ j, k = j + 1 := ⟨k - 1, by omega⟩
        rw [repriselaw5_twist.l0, if_pos (by omega), hrd, t1, t2, t3, t4, t5, t6, t7, t9, hhi, ew, r1 k (by omega)]
        rw [if_pos (by omega), if_pos (by omega), if_pos (by omega), if_neg (by omega), if_pos (by omega), if_pos (by omega), if_pos (by omega), if_pos (by omega)]
      · obtain ⟨r, r1, r2, r3⟩ := hone ((x / 3 % 4) % 256) (by omega) (by omega)
        refine ⟨r, fun k hk => ?_, r2, r3⟩
        obtain ⟨k, rfl⟩ : ∃ j, k = j + 1 := ⟨k - 1, by omega⟩
        rw [repriselaw5_twist.l0, if_pos (by omega), hrd, t1, if_pos (by omega), if_pos (by omega), if_neg c2, t2, t8, ew, r1 k (by omega), if_pos (by omega)]
    · obtain ⟨r, r1, r2, r3⟩ := hone ((x / 3 % 4) % 256) (by omega) (by omega)
      refine ⟨r, fun k hk => ?_, r2, r3⟩
      obtain ⟨k, rfl⟩ : ∃ j, k = j + 1 := ⟨k - 1, by omega⟩
      rw [repriselaw5_twist.l0, if_pos (by omega), hrd, if_neg (by omega), t2, t8, ew, r1 k (by omega), if_pos (by omega), if_pos (by omega)]
theorem twist_f (old l : List Int) (ho : old.length ≤ 1000) (hb : ∀ x ∈ old, 0 ≤ x ∧ x < 256) (hl : l.length ≤ 100) (hw : ∀ x ∈ l, 0 ≤ x ∧ x < 65536) :
    ∃ r, (∀ k, l.length + 1 ≤ k → repriselaw5_twist.f k old l = some r) ∧ r.length ≤ 12 * l.length ∧ ∀ x ∈ r, 0 ≤ x ∧ x < 256 :=
  twist_l0 old l ho hb hl hw l.length 0 [] (by omega) (by simp) (by simp)
theorem wf16_iff {x : Int} (h : (Lit.int .u16 x).wf = true) : 0 ≤ x ∧ x < 65536 := by
  have e : IntKind.u16.max = 65535 := by decide
  have e0 : IntKind.u16.min = 0 := by decide
  simp only [Lit.wf, Bool.and_eq_true, decide_eq_true_eq] at h
  omega
theorem rput_l0 (k : Nat) : ∀ (n : Nat) (acc : List Int), n < 18446744073709551616 → (Leb.enc n).length ≤ k → acc.length + (Leb.enc n).length ≤ 140737488355328 →
    repriseref1_Put.l0 k (n : Int) acc = some (acc ++ Leb.enc n) := by
  induction k with
  | zero => intro n acc _ h _; have := Leb.enc_pos n; omega
  | succ k ih =>
    intro n acc hn hk hl
    have hp := Leb.enc_pos n
    simp only [repriseref1_Put.l0]
    by_cases h : n < 128
    · rw [if_neg (by omega), if_pos (by omega), Leb.enc_small n h, show (n : Int) % 256 = n from by omega]
    · rw [Leb.enc_big n h] at hk hl ⊢
      simp only [List.length_cons] at hk hl
      rw [if_pos (by omega), if_pos (by omega), Leb.or128, show (n : Int) / 128 = ((n / 128 : Nat) : Int) from by omega, show (n : Int) % 128 + 128 = ((n % 128 + 128 : Nat) : Int) from by omega,
        ih (n / 128) _ (by omega) (by omega) (by simp only [List.length_append, List.length_cons, List.length_nil]; omega)]
      simp
theorem rput_f (k n : Nat) (hk : 10 ≤ k) (h : n < 18446744073709551616) : repriseref1_Put.f k (n : Int) = some (Leb.enc n) := by
  have h10 := Leb.enc_len10 n h
  have := rput_l0 k n [] h (by omega) (by simp only [List.length_nil]; omega)
  simpa [repriseref1_Put.f] using this
theorem literal_f (k : Nat) (b : List Int) (hk : 10 ≤ k) (hb : b.length ≤ 100000) : repriseref5_literal.f k b = some (DeltaM.lit b) := by
  unfold repriseref5_literal.f DeltaM.lit
  by_cases h : b.length = 0
  · rw [if_pos (by omega), if_pos h]
  · rw [if_neg (by omega), if_neg h]
    have e : IntKind.u64.wrap (2 * IntKind.u64.wrap (b.length : Int)) = ((2 * b.length : Nat) : Int) := by rw [Zig.u64w, Zig.u64w]; omega
    have h10 := Leb.enc_len10 (2 * b.length) (by omega)
    rw [e, rput_f k _ hk (by omega), Option.bind_some, if_pos (by omega)]
theorem common_at (x y : List Int) : DeltaM.common x y = match x, y with | a :: xs, b :: ys => if a = b then DeltaM.common xs ys + 1 else 0 | _, _ => 0 := by
  cases x with
  | nil => rfl
  | cons a x => cases y with
    | nil => rfl
    | cons b y => rfl
theorem common_cons (a b : Int) (x y : List Int) : DeltaM.common (a :: x) (b :: y) = if a = b then DeltaM.common x y + 1 else 0 := rfl
/-- the inner loop: how far a place goes -/
theorem longest_l1 (old x : List Int) (ho : old.length ≤ 1000) (hx : x.length ≤ 1000) (n p : Int) (j : Nat) (hj : j < old.length) (K0 c : Nat) (r : Int × Int)
    (H : ∀ k, K0 ≤ k → (if n < (c : Int) then repriseref5_longest.l0 k old x (c : Int) j ((j + 1 : Nat) : Int) else repriseref5_longest.l0 k old x n p ((j + 1 : Nat) : Int)) = some r) :
    ∀ (m i k : Nat), i + m = x.length → i + DeltaM.common (old.drop (j + i)) (x.drop i) = c → j + i ≤ old.length → K0 + m + 1 ≤ k → repriseref5_longest.l1 k old x n p j i = some r := by
  have ej : wrap64 ((j : Int) + 1) = ((j + 1 : Nat) : Int) := by rw [Zig.w64_id _ (by omega) (by omega)]; omega
  intro m
  induction m with
  | zero =>
    intro i k h1 h2 h3 hk
    obtain ⟨k, rfl⟩ : ∃ q, k = q + 1 := ⟨k - 1, by omega⟩
    rw [List.drop_of_length_le (l := x) (by omega), common_at] at h2
    have hic : i = c := by
      cases hd : old.drop (j + i) <;> rw [hd] at h2 <;> simpa using h2
    subst hic
    rw [repriseref5_longest.l1, if_neg (by omega), ej]
    exact H k (by omega)
  | succ m ih =>
    intro i k h1 h2 h3 hk
    obtain ⟨k, rfl⟩ : ∃ q, k = q + 1 := ⟨k - 1, by omega⟩
    have hlt : i < x.length := by omega
    have p1 : (i : Int) < (x.length : Int) := by omega
    have p2 : (0 : Int) ≤ (i : Int) := Int.natCast_nonneg i
    have p3 : (0 : Int) ≤ ((j + i : Nat) : Int) := Int.natCast_nonneg _
    have hk' : K0 + m + 1 ≤ k ∧ K0 ≤ k := by omega
    have e1 : wrap64 ((j : Int) + (i : Int)) = ((j + i : Nat) : Int) := by rw [Zig.w64_id _ (by omega) (by omega)]; omega
    have e2 : wrap64 ((i : Int) + 1) = ((i + 1 : Nat) : Int) := by rw [Zig.w64_id _ (by omega) (by omega)]; omega
    rw [repriseref5_longest.l1, if_pos p1, e1, e2, ej]
    clear e1 e2
    by_cases h4 : j + i < old.length
    · have p4 : ((j + i : Nat) : Int) < (old.length : Int) := by omega
      rw [if_pos p4, if_pos p3, if_pos p2, DeltaM.rd_at old (j + i) h4, DeltaM.rd_at x i hlt]
      rw [List.drop_eq_getElem_cons h4, List.drop_eq_getElem_cons hlt, common_cons] at h2
      generalize old[j + i] = u at *
      generalize x[i] = v at *
      by_cases h5 : u = v
      · rw [if_pos h5] at h2
        rw [if_pos h5]
        refine ih (i + 1) k (by omega) ?_ (by omega) hk'.1
        rw [show j + (i + 1) = j + i + 1 by omega]
        omega
      · rw [if_neg h5] at h2
        have hic : i = c := by omega
        subst hic
        rw [if_neg h5]
        exact H k hk'.2
    · rw [List.drop_of_length_le (l := old) (by omega), common_at] at h2
      have hic : i = c := by simpa using h2
      subst hic
      have p4 : ¬ ((j + i : Nat) : Int) < (old.length : Int) := by omega
      rw [if_neg p4]
      exact H k hk'.2
theorem longest_l0 (old x : List Int) (ho : old.length ≤ 1000) (hx : x.length ≤ 1000) : ∀ (d j k : Nat) (n p : Int), j + d = old.length → d * (x.length + 3) + 1 ≤ k →
    repriseref5_longest.l0 k old x n p (j : Int) = some (DeltaM.foldM old x (DeltaM.places j d) n p) := by
  intro d
  induction d with
  | zero =>
    intro j k n p h1 hk
    obtain ⟨k, rfl⟩ : ∃ q, k = q + 1 := ⟨k - 1, by omega⟩
    rw [repriseref5_longest.l0, if_neg (by omega)]
    rfl
  | succ d ih =>
    intro j k n p h1 hk
    obtain ⟨k, rfl⟩ : ∃ q, k = q + 1 := ⟨k - 1, by omega⟩
    rw [Nat.succ_mul] at hk
    rw [repriseref5_longest.l0, if_pos (by omega), DeltaM.places_succ]
    refine longest_l1 old x ho hx n p j (by omega) (d * (x.length + 3) + 1) (DeltaM.common (old.drop j) x) _ (fun q hq => ?_) x.length 0 k (by omega) (by rw [Nat.add_zero, List.drop_zero]; omega) (by omega) (by omega)
    rw [DeltaM.foldM, Int.toNat_natCast]
    by_cases h : n < (DeltaM.common (old.drop j) x : Int)
    · rw [if_pos h, if_pos h]; exact ih (j + 1) q _ _ (by omega) hq
    · rw [if_neg h, if_neg h]; exact ih (j + 1) q _ _ (by omega) hq
theorem longest_f (k : Nat) (old x : List Int) (ho : old.length ≤ 1000) (hx : x.length ≤ 1000) (hk : old.length * (x.length + 3) + 1 ≤ k) : repriseref5_longest.f k old x = some (DeltaM.longest old x) := by
  have := longest_l0 old x ho hx old.length 0 k 0 0 (by omega) hk
  exact this
theorem take_one (new : List Int) (frm i : Nat) (h1 : frm ≤ i) (h2 : i < new.length) : (new.take i).drop frm ++ [rd new (i : Int)] = (new.take (i + 1)).drop frm := by
  rw [List.take_succ_eq_append_getElem h2, List.drop_append_of_le_length (by rw [List.length_take]; omega), DeltaM.rd_at new i h2]
theorem wrap_num (n : Nat) (h : n ≤ 100000) : IntKind.u64.wrap ((IntKind.u64.wrap (2 * IntKind.u64.wrap (n : Int))) + 1) = ((2 * n + 1 : Nat) : Int) ∧ IntKind.u64.wrap (n : Int) = (n : Int) := by
  rw [Zig.u64w, Zig.u64w, Zig.u64w]; omega
/-- the document's Make, and the program's -/
theorem rmake_l0 (old new : List Int) (ho : old.length ≤ 1000) (hn : new.length ≤ 1000) (L : Nat) (hL : ∀ d, d ≤ new.length → old.length * (d + 3) + 1 ≤ L) (hL2 : 10 ≤ L) : ∀ (m frm i k : Nat) (out : List Int), frm ≤ i → i ≤ new.length → new.length - i < m → L + m ≤ k → out.length ≤ 40 * frm →
    repriseref5_Make.l0 k old new out ((new.take i).drop frm) (i : Int) = some (DeltaM.mk old new m out frm i) := by
  intro m
  induction m with
  | zero => intro frm i k out _ _ h; omega
  | succ m ih =>
    intro frm i k out h1 h2 h3 hk h5
    obtain ⟨k, rfl⟩ : ∃ q, k = q + 1 := ⟨k - 1, by omega⟩
    have hpl : ((new.take i).drop frm).length = i - frm := by rw [List.length_drop, List.length_take]; omega
    have hlf := literal_f k ((new.take i).drop frm) (by omega) (by rw [hpl]; omega)
    have hll := DeltaM.lit_len ((new.take i).drop frm) (by rw [hpl]; omega)
    rw [hpl] at hll
    by_cases hi : i < new.length
    · have hlo := longest_f k old (new.drop i) ho (by rw [List.length_drop]; omega) (by have := hL (new.drop i).length (by rw [List.length_drop]; omega); omega)
      have hbl := DeltaM.best_longest old (new.drop i)
      have hbb := DeltaM.longest_bounds old (new.drop i)
      rw [List.length_drop] at hbb
      have hstep : DeltaM.mk old new (m + 1) out frm i = if (DeltaM.best old (new.drop i)).1 = 0 then DeltaM.mk old new m out frm (i + 1) else DeltaM.mk old new m (out ++ DeltaM.lit ((new.take i).drop frm) ++ Leb.enc (2 * (DeltaM.best old (new.drop i)).1.toNat + 1) ++ Leb.enc (DeltaM.best old (new.drop i)).2.toNat) (i + (DeltaM.best old (new.drop i)).1.toNat) (i + (DeltaM.best old (new.drop i)).1.toNat) := by
        rw [DeltaM.mk, if_pos hi]
      have p1 : (i : Int) < (new.length : Int) := by omega
      have p2 : (0 : Int) ≤ (i : Int) := Int.natCast_nonneg i
      have p3 : (i : Int) ≤ (new.length : Int) := by omega
      rw [hstep, repriseref5_Make.l0, if_pos p1, if_pos p2, if_pos p3, Int.toNat_natCast, hlo, Option.bind_some]
      generalize DeltaM.longest old (new.drop i) = lo at *
      obtain ⟨n, p⟩ := lo
      dsimp only at hbl hbb ⊢
      rcases hbl with ⟨g1, g2⟩ | ⟨g1, g2⟩
      · obtain ⟨n, rfl⟩ := Int.eq_ofNat_of_zero_le hbb.1
        obtain ⟨p, rfl⟩ := Int.eq_ofNat_of_zero_le hbb.2.2.1
        rw [g2]
        dsimp only
        have e1 := Leb.enc_len10 (2 * n + 1) (by omega)
        have e2 := Leb.enc_len10 p (by omega)
        have hr1 := rput_f k (2 * n + 1) (by omega) (by omega)
        have hr2 := rput_f k p (by omega) (by omega)
        obtain ⟨w1, _⟩ := wrap_num n (by omega)
        obtain ⟨_, w2⟩ := wrap_num p (by omega)
        have q1 : ¬ ((n : Int) = 0) := by omega
        have q2 : ¬ ((n : Int) < 4) := by omega
        have q3 : out.length + (DeltaM.lit ((new.take i).drop frm)).length < 140737488355328 := by omega
        have q4 : (out ++ DeltaM.lit ((new.take i).drop frm)).length + (Leb.enc (2 * n + 1)).length < 140737488355328 := by rw [List.length_append]; omega
        have q5 : (out ++ DeltaM.lit ((new.take i).drop frm) ++ Leb.enc (2 * n + 1)).length + (Leb.enc p).length < 140737488355328 := by rw [List.length_append, List.length_append]; omega
        have hI := ih (i + n) (i + n) k (out ++ DeltaM.lit ((new.take i).drop frm) ++ Leb.enc (2 * n + 1) ++ Leb.enc p) (Nat.le_refl _) (by omega) (by omega) (by omega) (by simp only [List.length_append]; omega)
        have hnil : (new.take (i + n)).drop (i + n) = [] := List.drop_eq_nil_of_le (by rw [List.length_take]; omega)
        rw [hnil] at hI
        have ew : wrap64 ((i : Int) + (n : Int)) = ((i + n : Nat) : Int) := by rw [Zig.w64_id _ (by omega) (by omega)]; omega
        rw [if_neg q1, if_neg q2, hlf, Option.bind_some, if_pos q3, Option.bind_some, w1, hr1, Option.bind_some, if_pos q4, Option.bind_some, w2, hr2, Option.bind_some, if_pos q5, ew, Int.toNat_natCast, Int.toNat_natCast, hI]
      · rw [g2]
        have q1 : ((new.take i).drop frm).length < 140737488355328 := by omega
        have hI := ih frm (i + 1) k out (by omega) (by omega) (by omega) (by omega) h5
        rw [← take_one new frm i h1 hi] at hI
        have ew : wrap64 ((i : Int) + 1) = ((i + 1 : Nat) : Int) := by rw [Zig.w64_id _ (by omega) (by omega)]; omega
        rw [if_pos g1, if_pos q1, if_pos rfl, ew, hI]
    · have hstep : DeltaM.mk old new (m + 1) out frm i = out ++ DeltaM.lit (new.drop frm) := by rw [DeltaM.mk, if_neg hi]
      have ht : new.take i = new := List.take_of_length_le (by omega)
      have q1 : ¬ ((i : Int) < (new.length : Int)) := by omega
      have q3 : out.length + (DeltaM.lit ((new.take i).drop frm)).length < 140737488355328 := by omega
      rw [hstep, repriseref5_Make.l0, if_neg q1, hlf, Option.bind_some, if_pos q3, ht]
theorem rmake_f (k : Nat) (old new : List Int) (ho : old.length ≤ 300) (hn : new.length ≤ 300) (hk : 200000 ≤ k) : repriseref5_Make.f k old new = some (DeltaM.make old new) := by
  have hL : ∀ d, d ≤ new.length → old.length * (d + 3) + 1 ≤ 100000 := fun d hd => by
    have := Nat.mul_le_mul ho (show d + 3 ≤ 303 by omega)
    omega
  have := rmake_l0 old new (by omega) (by omega) 100000 hL (by omega) (new.length + 1) 0 0 k [] (Nat.le_refl _) (Nat.zero_le _) (by omega) (by omega) (by simp)
  exact this
theorem and127 (c : Int) (h0 : 0 ≤ c) (h1 : c < 256) : Go.bits .and .u8 c 127 = Go.bits .andNot .u8 c 128 := by
  rw [Leb.andNot128 c h0 h1, u8_and c 127 h0 h1 (by decide) (by decide)]
  have h : ∀ m : Nat, m < 256 → m &&& 127 = m % 128 := by decide +kernel
  rw [show (127 : Int).toNat = 127 from rfl, h c.toNat (by omega)]; omega
theorem rread_l0 (l : List Int) (r : List Int) : ∀ (i acc k : Nat), l.drop i = r → (∀ x ∈ r, 0 ≤ x ∧ x < 256) → i ≤ 9 → i ≤ l.length → acc < 2 ^ (7 * i) → 20 ≤ k + 2 * i →
    repriseref1_Read.l0 k l (acc : Int) (i : Int) = some (Leb.decA r i acc) := by
  induction r with
  | nil =>
    intro i acc k hd _ hi hil _ hk
    obtain ⟨k, rfl⟩ : ∃ m, k = m + 1 := ⟨k - 1, by omega⟩
    have : l.length ≤ i := by simpa using hd
    rw [repriseref1_Read.l0, if_neg (by omega), Leb.decA]
  | cons c r ih =>
    intro i acc k hd hb hi hil ha hk
    obtain ⟨k, rfl⟩ : ∃ m, k = m + 1 + 1 := ⟨k - 2, by omega⟩
    obtain ⟨e1, e2, e3⟩ := rd_drop l i c r hd
    have hc := hb c (by simp)
    have p1 : (i : Int) < (l.length : Int) := by omega
    have p2 : (0 : Int) ≤ (i : Int) := Int.natCast_nonneg i
    have ej : repriseref1_Read.l0 (k + 1 + 1) l (acc : Int) (i : Int) = repriseref1_Read.j1 (k + 1) l (acc : Int) (i : Int) (decide (i = 9 ∧ c > 1)) := by
      rw [repriseref1_Read.l0, if_pos p1]
      by_cases h9 : i = 9
      · rw [if_pos (by omega), if_pos p2, e1]; congr 1; simp [h9]
      · rw [if_neg (by omega)]; congr 1; simp [h9]
    rw [ej, repriseref1_Read.j1, Leb.decA]
    by_cases h1 : i = 9 ∧ c > 1
    · rw [if_pos (by simp [h1]), if_pos h1]
    · have ew : wrap64 (7 * (i : Int)) = 7 * (i : Int) := Zig.w64_id _ (by omega) (by omega)
      have ei : wrap64 ((i : Int) + 1) = ((i + 1 : Nat) : Int) := by rw [Zig.w64_id _ (by omega) (by omega)]; omega
      have eo := or_step acc i c hc hi ha h1
      rw [e1, and127 c hc.1 hc.2, eo, ei]
      clear eo ei
      have hneg : ¬ (decide (i = 9 ∧ c > 1) = true) := by simpa using h1
      have hpos : (0 : Int) ≤ wrap64 (7 * (i : Int)) := by rw [ew]; omega
      rw [if_neg hneg, if_neg h1, if_pos p2, if_pos p1, if_pos hpos]
      by_cases h2 : c < 128
      · rw [if_pos h2, if_pos h2]
        by_cases h3 : 0 < i ∧ c = 0
        · rw [if_pos (by omega), if_pos h3.2, if_pos h3]
        · rw [if_neg h3]
          by_cases h4 : (i : Int) > 0
          · rw [if_pos h4, if_neg (by omega)]
          · rw [if_neg h4]
      · have h9 : i ≤ 8 := by omega
        rw [if_neg h2, if_neg h2]
        exact ih (i + 1) _ k e2 (fun x hx => hb x (by simp [hx])) (by omega) (by omega) (Leb.acc_lt acc _ i ha) (by omega)
theorem rread_f (k : Nat) (l : List Int) (hb : ∀ x ∈ l, 0 ≤ x ∧ x < 256) (hk : 20 ≤ k) : repriseref1_Read.f k l = some (Leb.dec l) := by
  have := rread_l0 l l 0 0 k rfl hb (by omega) (by omega) (by decide) (by omega)
  exact this
theorem half (v : Int) (h0 : 0 ≤ v) (h1 : v < 18446744073709551616) : Go.bits .and .u64 v 1 = v % 2 ∧ Int.tmod v 2 = v % 2 ∧ IntKind.u64.wrap (Int.tdiv v 2) = v / 2 := by
  refine ⟨Zig.and_one_u64 v h0 h1, Int.tmod_eq_emod_of_nonneg h0, ?_⟩
  rw [Int.tdiv_eq_ediv_of_nonneg h0, Zig.u64w]; omega
theorem room2 (a b : Int) (h0 : 0 ≤ b) (h : b ≤ a) (h1 : a < 9223372036854775808) : IntKind.u64.wrap (a - b) = a - b := by rw [Zig.u64w]; omega
/-- Apply, on whatever bytes -/
theorem apply_same (old : List Int) (hold : old.length ≤ 1000) (most : Int) (h1 : -9223372036854775808 ≤ most) (h2 : most < 9223372036854775808) : ∀ (m : Nat) (d o : List Int), d.length ≤ m → (∀ x ∈ d, 0 ≤ x ∧ x < 256) → o.length + 1000 * d.length ≤ 1000000000 → (o.length : Int) ≤ max most 0 →
    ∃ r, (∀ k, 30 + 4 * m ≤ k → delta_Apply.l0 k old d most o = some r) ∧ (∀ k, 30 + 4 * m ≤ k → repriseref5_Apply.l0 k old d o (max most 0 - o.length) = some r) := by
  have hol : IntKind.u64.wrap (old.length : Int) = old.length := by rw [Zig.u64w]; omega
  replace hol := Aside0.mk hol
  intro m
  induction m with
  | zero =>
    intro d o hd _ _ _
    have : d = [] := List.length_eq_zero_iff.1 (by omega)
    subst this
    refine ⟨(o, 0), fun k hk => ?_, fun k hk => ?_⟩
    · obtain ⟨k, rfl⟩ : ∃ q, k = q + 1 := ⟨k - 1, by omega⟩
      exact apply_end k old most o
    · obtain ⟨k, rfl⟩ : ∃ q, k = q + 1 := ⟨k - 1, by omega⟩
      rw [repriseref5_Apply.l0, if_neg (by simp)]
  | succ m ih =>
    intro d o hd hb hlen hroom
    by_cases h0 : d.length = 0
    · have : d = [] := List.length_eq_zero_iff.1 h0
      subst this
      refine ⟨(o, 0), fun k hk => ?_, fun k hk => ?_⟩
      · obtain ⟨k, rfl⟩ : ∃ q, k = q + 1 := ⟨k - 1, by omega⟩
        exact apply_end k old most o
      · obtain ⟨k, rfl⟩ : ∃ q, k = q + 1 := ⟨k - 1, by omega⟩
        rw [repriseref5_Apply.l0, if_neg (by simp)]
    have hpos : (d.length : Int) > 0 := by omega
    have hok := Leb.dec_ok d hb
    have hrd : ∀ k, 20 ≤ k → leb_Read.f k d = some (Leb.dec d) := fun k hk => read_f k d hb hk
    have hrr : ∀ k, 20 ≤ k → repriseref1_Read.f k d = some (Leb.dec d) := fun k hk => rread_f k d hb hk
    have hre := room_eq most o h1 h2 hroom (by omega)
    replace hre := Aside0.mk hre
    obtain ⟨⟨v, s, e⟩, hD⟩ : ∃ D, D = Leb.dec d := ⟨_, rfl⟩
    rw [← hD] at hok hrd hrr
    dsimp only at hok
    rcases hok with ⟨rfl, v0, v1, s0, s1, s2⟩ | ⟨rfl, rfl, he⟩
    · obtain ⟨t1, t2, t3⟩ := half v v0 v1
      obtain ⟨s, rfl⟩ := Int.eq_ofNat_of_zero_le (show 0 ≤ s by omega)
      have hbs : ∀ x ∈ d.drop s, 0 ≤ x ∧ x < 256 := fun x hx => hb x (List.mem_of_mem_drop hx)
      have hsl : (d.drop s).length = d.length - s := List.length_drop
      have q1 : (0 : Int) ≤ (s : Int) := Int.natCast_nonneg s
      have q2 : (s : Int) ≤ (d.length : Int) := by omega
      obtain ⟨n, hn⟩ : ∃ n : Nat, v / 2 = (n : Int) := ⟨(v / 2).toNat, by omega⟩
      rw [hn] at t3
      have hn63 : n < 9223372036854775808 := by omega
      by_cases hv : v % 2 = 1
      · -- a part of the old ones
        have hok2 := Leb.dec_ok (d.drop s) hbs
        have hrd2 : ∀ k, 20 ≤ k → leb_Read.f k (d.drop s) = some (Leb.dec (d.drop s)) := fun k hk => read_f k _ hbs hk
        have hrr2 : ∀ k, 20 ≤ k → repriseref1_Read.f k (d.drop s) = some (Leb.dec (d.drop s)) := fun k hk => rread_f k _ hbs hk
        obtain ⟨⟨p, s2, e⟩, hD2⟩ : ∃ D, D = Leb.dec (d.drop s) := ⟨_, rfl⟩
        rw [← hD2] at hok2 hrd2 hrr2
        dsimp only at hok2
        rw [hv] at t1 t2
        replace t1 := Aside0.mk t1
        replace t2 := Aside0.mk t2
        replace t3 := Aside0.mk t3
        have b1 : ((1 : Int) == 1) = true := rfl
        rcases hok2 with ⟨rfl, p0, p1, z0, z1, z2⟩ | ⟨rfl, rfl, he⟩
        · obtain ⟨s2, rfl⟩ := Int.eq_ofNat_of_zero_le (show 0 ≤ s2 by omega)
          rw [hsl] at z1
          have hw : wrap64 ((s : Int) + (s2 : Int)) = ((s + s2 : Nat) : Int) := by rw [Zig.w64_id _ (by omega) (by omega)]; omega
          replace hw := Aside0.mk hw
          have q3 : (0 : Int) ≤ (s2 : Int) := Int.natCast_nonneg s2
          have q4 : (s2 : Int) ≤ ((d.drop s).length : Int) := by rw [hsl]; omega
          have q5 : (0 : Int) ≤ ((s + s2 : Nat) : Int) := Int.natCast_nonneg _
          have q6 : ((s + s2 : Nat) : Int) ≤ (d.length : Int) := by omega
          have hdd : (d.drop s).drop s2 = d.drop (s + s2) := List.drop_drop
          have hrest : (d.drop (s + s2)).length = d.length - (s + s2) := List.length_drop
          have hbr : ∀ x ∈ d.drop (s + s2), 0 ≤ x ∧ x < 256 := fun x hx => hb x (List.mem_of_mem_drop hx)
          have hdr : ∀ k, 20 ≤ k → delta_read.f k d = if (n : Int) = 0 then some (0, 0, false, 0, 21) else some ((n : Int), p, true, ((s + s2 : Nat) : Int), 0) := fun k hk => by
            unfold delta_read.f
            rw [hrd k hk, Option.bind_some]
            dsimp only
            rw [if_pos rfl, t1.out, if_pos rfl, if_pos q1, if_pos q2, Int.toNat_natCast, hrd2 k hk, Option.bind_some]
            dsimp only
            rw [if_pos rfl, hn, hw.out]
            rfl
          by_cases hn0 : (n : Int) = 0
          · refine ⟨([], 21), fun k hk => ?_, fun k hk => ?_⟩
            · obtain ⟨k, rfl⟩ : ∃ q, k = q + 1 := ⟨k - 1, by omega⟩
              rw [delta_Apply.l0, if_pos hpos, hdr k (by omega), if_pos hn0, Option.bind_some]
              dsimp only
              rw [if_neg (by decide)]
            · obtain ⟨k, rfl⟩ : ∃ q, k = q + 1 + 1 := ⟨k - 2, by omega⟩
              rw [repriseref5_Apply.l0, if_pos hpos, hrr (k + 1) (by omega), Option.bind_some]
              dsimp only
              rw [if_pos rfl, if_pos q1, if_pos q2, Option.bind_some, Int.toNat_natCast, t2.out, if_pos rfl, hrr2 (k + 1) (by omega), Option.bind_some]
              dsimp only
              rw [if_pos rfl, if_pos q3, if_pos q4, repriseref5_Apply.j1, t3.out, if_pos hn0]
          have hA : ∀ k, 20 ≤ k → delta_Apply.l0 (k + 1) old d most o = if (n : Int) > max most 0 - o.length then some ([], 25) else if p > (old.length : Int) then delta_Apply.j1 k old (d.drop (s + s2)) most o true n p true ((s + s2 : Nat) : Int) else delta_Apply.j1 k old (d.drop (s + s2)) most o (decide ((n : Int) > IntKind.u64.wrap ((old.length : Int) - p))) n p true ((s + s2 : Nat) : Int) := fun k hk => by
            rw [delta_Apply.l0, if_pos hpos, hdr k hk, if_neg hn0, Option.bind_some]
            dsimp only
            rw [if_pos rfl, if_pos q5, if_pos q6, Option.bind_some, Int.toNat_natCast, hre.out, if_pos rfl, hol.out]
          have hB : ∀ k, 20 ≤ k → repriseref5_Apply.l0 (k + 1 + 1) old d o (max most 0 - o.length) = if (n : Int) > max most 0 - o.length then some ([], 25) else repriseref5_Apply.j2 k old (d.drop (s + s2)) o (max most 0 - o.length) v p n false := fun k hk => by
            rw [repriseref5_Apply.l0, if_pos hpos, hrr (k + 1) (by omega), Option.bind_some]
            dsimp only
            rw [if_pos rfl, if_pos q1, if_pos q2, Option.bind_some, Int.toNat_natCast, t2.out, if_pos rfl, hrr2 (k + 1) (by omega), Option.bind_some]
            dsimp only
            rw [if_pos rfl, if_pos q3, if_pos q4, repriseref5_Apply.j1, t3.out, if_neg hn0, Int.toNat_natCast, hdd, t2.out, if_neg (show ¬ (1 : Int) = 0 by decide)]
          by_cases hlong : (n : Int) > max most 0 - o.length
          · refine ⟨([], 25), fun k hk => ?_, fun k hk => ?_⟩
            · obtain ⟨k, rfl⟩ : ∃ q, k = q + 1 := ⟨k - 1, by omega⟩
              rw [hA k (by omega), if_pos hlong]
            · obtain ⟨k, rfl⟩ : ∃ q, k = q + 1 + 1 := ⟨k - 2, by omega⟩
              rw [hB k (by omega), if_pos hlong]
          by_cases hp : p > (old.length : Int)
          · refine ⟨([], 21), fun k hk => ?_, fun k hk => ?_⟩
            · obtain ⟨k, rfl⟩ : ∃ q, k = q + 1 + 1 := ⟨k - 2, by omega⟩
              rw [hA (k + 1) (by omega), if_neg hlong, if_pos hp, delta_Apply.j1, if_pos rfl]
            · obtain ⟨k, rfl⟩ : ∃ q, k = q + 1 + 1 + 1 + 1 := ⟨k - 4, by omega⟩
              rw [hB (k + 1 + 1) (by omega), if_neg hlong, repriseref5_Apply.j2, if_neg (by decide), t2.out, if_pos rfl, hol.out, if_pos hp, repriseref5_Apply.j3, if_pos rfl]
          have hwp : IntKind.u64.wrap ((old.length : Int) - p) = old.length - p := room2 _ _ p0 (by omega) (by omega)
          replace hwp := Aside0.mk hwp
          by_cases hq : (n : Int) > (old.length : Int) - p
          · refine ⟨([], 21), fun k hk => ?_, fun k hk => ?_⟩
            · obtain ⟨k, rfl⟩ : ∃ q, k = q + 1 + 1 := ⟨k - 2, by omega⟩
              rw [hA (k + 1) (by omega), if_neg hlong, if_neg hp, hwp.out, decide_eq_true hq, delta_Apply.j1, if_pos rfl]
            · obtain ⟨k, rfl⟩ : ∃ q, k = q + 1 + 1 + 1 + 1 := ⟨k - 4, by omega⟩
              rw [hB (k + 1 + 1) (by omega), if_neg hlong, repriseref5_Apply.j2, if_neg (by decide), t2.out, if_pos rfl, hol.out, if_neg hp, hwp.out, decide_eq_true hq, repriseref5_Apply.j3, if_pos rfl]
          obtain ⟨p, rfl⟩ := Int.eq_ofNat_of_zero_le p0
          have hu3 : IntKind.u64.wrap ((p : Int) + (n : Int)) = ((p + n : Nat) : Int) := by rw [Zig.u64w]; omega
          replace hu3 := Aside0.mk hu3
          have hvl : ((old.take (p + n)).drop p).length = n := by rw [List.length_drop, List.length_take]; omega
          have g1 : (p : Int) ≤ ((p + n : Nat) : Int) := by omega
          have g2 : ((p + n : Nat) : Int) ≤ (old.length : Int) := by omega
          have g3 : o.length + ((old.take (p + n)).drop p).length < 140737488355328 := by omega
          obtain ⟨r, r1, r2⟩ := ih (d.drop (s + s2)) (o ++ (old.take (p + n)).drop p) (by omega) hbr (by rw [List.length_append]; omega) (by rw [List.length_append]; omega)
          have hrm : max most 0 - ((o ++ (old.take (p + n)).drop p).length : Int) = max most 0 - o.length - n := by rw [List.length_append]; omega
          rw [hrm] at r2
          refine ⟨r, fun k hk => ?_, fun k hk => ?_⟩
          · obtain ⟨k, rfl⟩ : ∃ q, k = q + 1 + 1 := ⟨k - 2, by omega⟩
            rw [hA (k + 1) (by omega), if_neg hlong, if_neg hp, hwp.out, decide_eq_false hq, delta_Apply.j1, if_neg (by decide), if_pos rfl, if_pos p0, hu3.out, if_pos g1, if_pos g2, Int.toNat_natCast, Int.toNat_natCast, if_pos g3]
            exact r1 k (by omega)
          · obtain ⟨k, rfl⟩ : ∃ q, k = q + 1 + 1 + 1 + 1 := ⟨k - 4, by omega⟩
            rw [hB (k + 1 + 1) (by omega), if_neg hlong, repriseref5_Apply.j2, if_neg (by decide), t2.out, if_pos rfl, hol.out, if_neg hp, hwp.out, decide_eq_false hq, repriseref5_Apply.j3, if_neg (by decide), t2.out, if_neg (by decide), if_pos p0, hu3.out, if_pos g1, if_pos g2, Int.toNat_natCast, Int.toNat_natCast, if_pos g3, room2 _ _ (by omega) (by omega) (by omega)]
            exact r2 k (by omega)
        · have hdr : ∀ k, 20 ≤ k → delta_read.f k d = some (0, 0, false, 0, e) := fun k hk => by
            unfold delta_read.f
            rw [hrd k hk, Option.bind_some]
            dsimp only
            rw [if_pos rfl, t1.out, if_pos rfl, if_pos q1, if_pos q2, Int.toNat_natCast, hrd2 k hk, Option.bind_some]
            dsimp only
            rw [if_neg (by omega)]
          refine ⟨([], e), fun k hk => ?_, fun k hk => ?_⟩
          · obtain ⟨k, rfl⟩ : ∃ q, k = q + 1 := ⟨k - 1, by omega⟩
            rw [delta_Apply.l0, if_pos hpos, hdr k (by omega), Option.bind_some]
            dsimp only
            rw [if_neg (by omega)]
          · obtain ⟨k, rfl⟩ : ∃ q, k = q + 1 := ⟨k - 1, by omega⟩
            rw [repriseref5_Apply.l0, if_pos hpos, hrr k (by omega), Option.bind_some]
            dsimp only
            rw [if_pos rfl, if_pos q1, if_pos q2, Option.bind_some, Int.toNat_natCast, t2.out, if_pos rfl, hrr2 k (by omega), Option.bind_some]
            dsimp only
            rw [if_neg (by omega)]
      · -- bytes of its own
        have hv0 : v % 2 = 0 := by omega
        rw [hv0] at t1 t2
        replace t1 := Aside0.mk t1
        replace t2 := Aside0.mk t2
        replace t3 := Aside0.mk t3
        have hdr : ∀ k, 20 ≤ k → delta_read.f k d = if (n : Int) = 0 then some (0, 0, false, 0, 21) else some ((n : Int), 0, false, (s : Int), 0) := fun k hk => by
          unfold delta_read.f
          rw [hrd k hk, Option.bind_some]
          dsimp only
          rw [if_pos rfl, t1.out, if_neg (by decide), hn]
          rfl
        by_cases hn0 : (n : Int) = 0
        · refine ⟨([], 21), fun k hk => ?_, fun k hk => ?_⟩
          · obtain ⟨k, rfl⟩ : ∃ q, k = q + 1 := ⟨k - 1, by omega⟩
            rw [delta_Apply.l0, if_pos hpos, hdr k (by omega), if_pos hn0, Option.bind_some]
            dsimp only
            rw [if_neg (by decide)]
          · obtain ⟨k, rfl⟩ : ∃ q, k = q + 1 + 1 := ⟨k - 2, by omega⟩
            rw [repriseref5_Apply.l0, if_pos hpos, hrr (k + 1) (by omega), Option.bind_some]
            dsimp only
            rw [if_pos rfl, if_pos q1, if_pos q2, Option.bind_some, Int.toNat_natCast, t2.out, if_neg (by decide), repriseref5_Apply.j1, t3.out, if_pos hn0]
        have hA : ∀ k, 20 ≤ k → delta_Apply.l0 (k + 1) old d most o = if (n : Int) > max most 0 - o.length then some ([], 25) else delta_Apply.j1 k old (d.drop s) most o false n 0 false (s : Int) := fun k hk => by
          rw [delta_Apply.l0, if_pos hpos, hdr k hk, if_neg hn0, Option.bind_some]
          dsimp only
          rw [if_pos rfl, if_pos q1, if_pos q2, Option.bind_some, Int.toNat_natCast, hre.out, if_neg (show ¬ (false = true) by decide)]
        have hdl : IntKind.u64.wrap ((d.drop s).length : Int) = (d.drop s).length := by rw [Zig.u64w]; omega
        replace hdl := Aside0.mk hdl
        have hB : ∀ k, 20 ≤ k → repriseref5_Apply.l0 (k + 1 + 1) old d o (max most 0 - o.length) = if (n : Int) > max most 0 - o.length then some ([], 25) else repriseref5_Apply.j2 k old (d.drop s) o (max most 0 - o.length) v 0 n (decide ((n : Int) > ((d.drop s).length : Int))) := fun k hk => by
          rw [repriseref5_Apply.l0, if_pos hpos, hrr (k + 1) (by omega), Option.bind_some]
          dsimp only
          rw [if_pos rfl, if_pos q1, if_pos q2, Option.bind_some, Int.toNat_natCast, t2.out, if_neg (by decide), repriseref5_Apply.j1, t3.out, if_neg hn0, t2.out, if_pos rfl, hdl.out]
        by_cases hlong : (n : Int) > max most 0 - o.length
        · refine ⟨([], 25), fun k hk => ?_, fun k hk => ?_⟩
          · obtain ⟨k, rfl⟩ : ∃ q, k = q + 1 := ⟨k - 1, by omega⟩
            rw [hA k (by omega), if_pos hlong]
          · obtain ⟨k, rfl⟩ : ∃ q, k = q + 1 + 1 := ⟨k - 2, by omega⟩
            rw [hB k (by omega), if_pos hlong]
        by_cases hs : (n : Int) > ((d.drop s).length : Int)
        · refine ⟨([], 22), fun k hk => ?_, fun k hk => ?_⟩
          · obtain ⟨k, rfl⟩ : ∃ q, k = q + 1 + 1 := ⟨k - 2, by omega⟩
            rw [hA (k + 1) (by omega), if_neg hlong, delta_Apply.j1, if_neg (by decide), if_neg (by decide), hdl.out, if_pos hs]
          · obtain ⟨k, rfl⟩ : ∃ q, k = q + 1 + 1 + 1 := ⟨k - 3, by omega⟩
            rw [hB (k + 1) (by omega), if_neg hlong, decide_eq_true hs, repriseref5_Apply.j2, if_pos rfl]
        have g1 : (0 : Int) ≤ (n : Int) := Int.natCast_nonneg n
        have g2 : (n : Int) ≤ ((d.drop s).length : Int) := by omega
        have htl : ((d.drop s).take n).length = n := by rw [List.length_take]; omega
        have hdl2 : ((d.drop s).drop n).length = d.length - s - n := by rw [List.length_drop, hsl]
        have g3 : o.length + ((d.drop s).take n).length < 140737488355328 := by omega
        obtain ⟨r, r1, r2⟩ := ih ((d.drop s).drop n) (o ++ (d.drop s).take n) (by omega) (fun x hx => hbs x (List.mem_of_mem_drop hx)) (by rw [List.length_append]; omega) (by rw [List.length_append]; omega)
        have hrm : max most 0 - ((o ++ (d.drop s).take n).length : Int) = max most 0 - o.length - n := by rw [List.length_append]; omega
        rw [hrm] at r2
        refine ⟨r, fun k hk => ?_, fun k hk => ?_⟩
        · obtain ⟨k, rfl⟩ : ∃ q, k = q + 1 + 1 := ⟨k - 2, by omega⟩
          rw [hA (k + 1) (by omega), if_neg hlong, delta_Apply.j1, if_neg (by decide), if_neg (by decide), hdl.out, if_neg hs, if_pos g1, if_pos g2, Option.bind_some, Int.toNat_natCast, if_pos g3]
          exact r1 k (by omega)
        · obtain ⟨k, rfl⟩ : ∃ q, k = q + 1 + 1 + 1 + 1 := ⟨k - 4, by omega⟩
          rw [hB (k + 1 + 1) (by omega), if_neg hlong, decide_eq_false hs, repriseref5_Apply.j2, if_neg (by decide), t2.out, if_neg (by decide), repriseref5_Apply.j3, if_neg (by decide), t2.out, if_pos rfl, if_pos g1, if_pos g2, Option.bind_some, Int.toNat_natCast, if_pos g3, room2 _ _ (by omega) (by omega) (by omega)]
          exact r2 k (by omega)
    · have hd1 : ∀ k, 20 ≤ k → delta_read.f k d = some (0, 0, false, 0, e) := fun k hk => by
        unfold delta_read.f
        rw [hrd k hk, Option.bind_some]
        dsimp only
        rw [if_neg (by omega)]
      refine ⟨([], e), fun k hk => ?_, fun k hk => ?_⟩
      · obtain ⟨k, rfl⟩ : ∃ q, k = q + 1 := ⟨k - 1, by omega⟩
        rw [delta_Apply.l0, if_pos hpos, hd1 k (by omega), Option.bind_some]
        dsimp only
        rw [if_neg (by omega)]
      · obtain ⟨k, rfl⟩ : ∃ q, k = q + 1 := ⟨k - 1, by omega⟩
        rw [repriseref5_Apply.l0, if_pos hpos, hrr k (by omega), Option.bind_some]
        dsimp only
        rw [if_neg (by omega)]
theorem and3 (x : Int) (h : 0 ≤ x ∧ x < 256) : 0 ≤ Go.bits .and .u8 x 3 ∧ Go.bits .and .u8 x 3 < 256 := by
  rw [u8_and x 3 h.1 h.2 (by decide) (by decide)]
  have h1 : x.toNat &&& (3 : Int).toNat ≤ 3 := Nat.and_le_right
  omega
def repriselaw5_DeltaTells.T13 : Bool × List (List Nat × List Nat) := (true, [([], []), ([0], [0]), ([], []), ([2], [2]), ([1, 3], [1, 3]), ([], []), ([5], [5]), ([], []), ([7], [7]), ([6, 8, 4], [6, 8]), ([4, 9, 0, 1, 2, 3, 4], [4]), ([9, 10, 0, 1, 2, 3, 4, 5, 6, 7, 8, 9, 10], [9])])
def repriselaw5_DeltaTells.B13 : List Nat := [0, 1, 0, 4, 15, 0, 32, 0, 128, 511, 1023, 2047]
theorem repriselaw5_DeltaTells.tab13 : rtab .any (opsOf Try.f7 13) = repriselaw5_DeltaTells.T13 := by kernel_rfl
theorem repriselaw5_DeltaTells.bits13 : waitsOk repriselaw5_DeltaTells.T13.2 repriselaw5_DeltaTells.B13 = true := by kernel_rfl
def repriselaw5_DeltaTells.T19 : Bool × List (List Nat × List Nat) := (true, [([], []), ([], []), ([], []), ([], []), ([], []), ([4], [4]), ([], []), ([6], [6]), ([7], [7]), ([5, 8], [5, 8]), ([3, 9], [3, 9]), ([], []), ([11], [11]), ([], []), ([12, 13, 12], [12, 13]), ([0, 1, 2, 10, 14], [0, 1, 2, 10, 14]), ([15], [15]), ([], [])])
def repriselaw5_DeltaTells.B19 : List Nat := [0, 0, 0, 0, 0, 16, 0, 64, 192, 496, 1016, 0, 2048, 0, 14336, 32767, 65535, 0]
theorem repriselaw5_DeltaTells.tab19 : rtab .any (opsOf Try.f7 19) = repriselaw5_DeltaTells.T19 := by kernel_rfl
theorem repriselaw5_DeltaTells.bits19 : waitsOk repriselaw5_DeltaTells.T19.2 repriselaw5_DeltaTells.B19 = true := by kernel_rfl
theorem cell_below_ {W W' : World} {a : Addr} {v : Value} (h : W.cell? a = some v) (hb : Below W.heap.size W W') : W'.cell? a = some v := by rw [hb.cell (World.block_lt_of_cell? _ _ h)]; exact h
/-- a slice of bytes, read -/
def okS (W : World) (s : DeltaM.Sl) : Prop := Kd.C (Kd.int .u8) W s.1 s.2.2.length s.2.2 ∧ s.2.2.length ≤ s.2.1 ∧ s.2.2.length ≤ 240 ∧ ∀ x ∈ s.2.2, 0 ≤ x ∧ x < 256
/-- bytes, read, of whatever length -/
def okT (W : World) (s : DeltaM.Sl) : Prop := Kd.C (Kd.int .u8) W s.1 s.2.2.length s.2.2 ∧ s.2.2.length ≤ s.2.1 ∧ s.2.2.length ≤ 61000 ∧ ∀ x ∈ s.2.2, 0 ≤ x ∧ x < 256
theorem okT.below {W W' : World} {s : DeltaM.Sl} (h : okT W s) (hb : Below W.heap.size W W') : okT W' s := ⟨Kd.C_below h.1 hb, h.2⟩
theorem okS.below {W W' : World} {s : DeltaM.Sl} (h : okS W s) (hb : Below W.heap.size W W') : okS W' s := ⟨Kd.C_below h.1 hb, h.2⟩
theorem cells_lit (w : World) (l : List Value) (t : TypeId) : ∀ j u, l[j]? = some u → (w.alloc (.cells l.toArray t)).cell? ⟨w.heap.size, j, none⟩ = some u := by
  intro j u hj
  rw [cell_of_row _ w.heap.size j _ t (0, 0) (heap_alloc_last w _)]
  simpa using hj
theorem size56 : (Try.prog.info? 56).map (·.size) = some 2 := by kernel_rfl
theorem apply_f (old d : List Int) (m : Int) (ho : old.length ≤ 1000) (h1 : -9223372036854775808 ≤ m) (h2 : m < 9223372036854775808) (hd : d.length ≤ 61000) (hb : ∀ x ∈ d, 0 ≤ x ∧ x < 256) : ∃ r, delta_Apply.f 300000 old d m = some r ∧ repriseref5_Apply.f 300000 old d m = some r := by
  obtain ⟨r, r1, r2⟩ := apply_same old ho m h1 h2 d.length d [] (Nat.le_refl _) hb (by simp only [List.length_nil]; omega) (by simp only [List.length_nil]; omega)
  refine ⟨r, r1 300000 (by omega), ?_⟩
  have hm : IntKind.u64.wrap (mx m 0) = max m 0 - (([] : List Int).length : Int) := by
    have e : mx m 0 = max m 0 := by unfold mx; split <;> omega
    rw [e, Zig.u64w]; simp only [List.length_nil]; omega
  unfold repriseref5_Apply.f
  rw [hm]
  exact r2 300000 (by omega)
theorem V_of {A : Option Addr} {c : Nat} {xs : List Int} {w : World} {base : Nat} (hc : xs.length ≤ c) (h : Kd.C (Kd.int .u8) w A xs.length xs) : Kd.V (Kd.int .u8) 5 w base (fun _ => True) (.slice A xs.length c) xs :=
  Kd.V_mk hc (fun W' hW => (Kd.heap_int _).C (fun k hk => hW k trivial hk) h)
theorem own_head {w : World} {base : Nat} {ok : Nat → Prop} {v : Value} {xs : List Int} (h : Kd.R (Kd.int .u8) 5 w base ok v xs) : (v = .slice none 0 0 ∧ xs = []) ∨ ∃ g cap, v = .slice (some ⟨g, 0, none⟩) xs.length cap ∧ base ≤ g := by
  have ho := Kd.own_of_R h
  rcases ho.2 with ⟨rfl, h0⟩ | ⟨g, cap, cur, rfl, hb, _⟩
  · exact Or.inl ⟨rfl, List.length_eq_zero_iff.1 h0⟩
  · exact Or.inr ⟨g, cap, rfl, hb⟩
theorem head_ {w : World} {base : Nat} {ok : Nat → Prop} {v : Value} {xs : List Int} (h : Kd.R (Kd.int .u8) 5 w base ok v xs) : ∃ A c, v = .slice A xs.length c ∧ (0 < xs.length → ∃ g, A = some ⟨g, 0, none⟩ ∧ base ≤ g) := by
  rcases own_head h with ⟨e, h⟩ | ⟨g, cap, e, h⟩
  · exact ⟨none, 0, by rw [e, h]; rfl, fun h1 => by rw [h] at h1; simp at h1⟩
  · exact ⟨_, _, e, fun _ => ⟨g, rfl, h⟩⟩
theorem xor8 (a b : Int) (h1 : 0 ≤ a) (h2 : a < 256) (h3 : 0 ≤ b) (h4 : b < 256) : 0 ≤ Go.bits .xor .u8 a b ∧ Go.bits .xor .u8 a b < 256 := by
  rw [u8_xor a b h1 h2 h3 h4]
  have := Nat.xor_lt_two_pow (n := 8) (x := a.toNat) (y := b.toNat) (by omega) (by omega)
  omega
set_option maxHeartbeats 16000000 in
set_option maxRecDepth 100000 in
theorem tells_calls (A0 : Option Addr) (c0 : Nat) (l0 : List Int) (A1 : Option Addr) (c1 : Nat) (l1 : List Int) (A2 : Option Addr) (c2 : Nat) (l2 : List Int) (A3 : Option Addr) (c3 : Nat) (l3 : List Int) (a4 a5 : Int) (w : World)
    (hr0 : Kd.C (Kd.int .u8) w A0 l0.length l0) (hc0 : l0.length ≤ c0) (hr1 : Kd.C (Kd.int .u8) w A1 l1.length l1) (hc1 : l1.length ≤ c1) (hr2 : Kd.C (Kd.int .u16) w A2 l2.length l2) (hc2 : l2.length ≤ c2) (hr3 : Kd.C (Kd.int .u8) w A3 l3.length l3) (hc3 : l3.length ≤ c3)
    (hb0 : ∀ x ∈ l0, 0 ≤ x ∧ x < 256) (hb1 : ∀ x ∈ l1, 0 ≤ x ∧ x < 256) (hb2 : ∀ x ∈ l2, 0 ≤ x ∧ x < 65536) (hb3 : ∀ x ∈ l3, 0 ≤ x ∧ x < 256) (h4 : -9223372036854775808 ≤ a4 ∧ a4 < 9223372036854775808) (h5 : 0 ≤ a5 ∧ a5 < 256) :
    Calls Try.prog 7 #[.slice A0 l0.length c0, .slice A1 l1.length c1, .slice A2 l2.length c2, .slice A3 l3.length c3, .int .i64 a4, .int .u8 a5] w fun e w' => e = .returned (.bool true) ∧ Below w.heap.size w w' := by
  have HL := Aside0.mk (show (∀ x ∈ l0, 0 ≤ x ∧ x < 256) ∧ (∀ x ∈ l1, 0 ≤ x ∧ x < 256) ∧ (∀ x ∈ l2, 0 ≤ x ∧ x < 65536) ∧ (∀ x ∈ l3, 0 ≤ x ∧ x < 256) from ⟨hb0, hb1, hb2, hb3⟩)
  have H4 := Aside0.mk h4
  have H5 := Aside0.mk h5
  have HC := Aside0.mk (show l0.length ≤ c0 ∧ l1.length ≤ c1 ∧ l2.length ≤ c2 ∧ l3.length ≤ c3 from ⟨hc0, hc1, hc2, hc3⟩)
  clear hb0 hb1 hb2 hb3 h4 h5 hc0 hc1 hc2 hc3
  go_enter Try.func7, Try.ntmps7
  go_wp2_with fail
  refine (repriselaw5_known.calls true _ rfl).mono ?_
  rintro e w1 ⟨rfl, hB1⟩
  have HR0 := Aside0.mk hr0
  have HR1 := Aside0.mk hr1
  have HR2 := Aside0.mk hr2
  have HR3 := Aside0.mk hr3
  have HB1 := Aside0.mk hB1
  clear hr0 hr1 hr2 hr3 hB1
  by_cases g0 : l0.length > 80
  · have d0 : decide ((80 : Int) < (l0.length : Int)) = true := decide_eq_true (by omega)
    go_wp2
    go_ret
    exact ⟨rfl, HB1.out⟩
  have d0 : decide ((80 : Int) < (l0.length : Int)) = false := decide_eq_false (by omega)
  by_cases g1 : l1.length > 80
  · have d1 : decide ((80 : Int) < (l1.length : Int)) = true := decide_eq_true (by omega)
    go_wp2
    go_ret
    exact ⟨rfl, HB1.out⟩
  have d1 : decide ((80 : Int) < (l1.length : Int)) = false := decide_eq_false (by omega)
  by_cases g2 : l2.length > 20
  · have d2 : decide ((20 : Int) < (l2.length : Int)) = true := decide_eq_true (by omega)
    go_wp2
    go_ret
    exact ⟨rfl, HB1.out⟩
  have d2 : decide ((20 : Int) < (l2.length : Int)) = false := decide_eq_false (by omega)
  by_cases g3 : l3.length > 40
  · have d3 : decide ((40 : Int) < (l3.length : Int)) = true := decide_eq_true (by omega)
    go_wp2
    go_ret
    exact ⟨rfl, HB1.out⟩
  have d3 : decide ((40 : Int) < (l3.length : Int)) = false := decide_eq_false (by omega)
  have HG := Aside0.mk (show l0.length ≤ 80 ∧ l1.length ≤ 80 ∧ l2.length ≤ 20 ∧ l3.length ≤ 40 by omega)
  clear g0 g1 g2 g3
  go_wp2_with (first | ((with_reducible refine gate_builtin (b := .append) (xs := #[.const (.slice none 0 0), .tmp 48]) rfl ?_); at_builtin; refine Kd.R_append_rows (Kd.int .u8) (w0 := w) w.heap.size rfl (.const (.slice none 0 0)) (.tmp 48) 22 5 (.int .u8 0) 1 rfl Try.underlying22 info5 rfl (by decide) (by omega) (.slice none 0 0) ([] : List Int) l0 _ _ _ (fun _ => True) (fun _ => False) rfl rfl ?aO ?aR (fun _ _ h => h) (fun _ h => h.elim) ?aF ?aB ?aS ?aL ?_; (case aR => exact Kd.C_below HR0.out HB1.out); (case aB => exact HB1.out); (case aF => exact (fun _ _ => trivial)); (case aO => exact (Kd.R_nil _ _ _ _ _)); (case aS => exact HB1.out.size); (case aL => have := HG.out; simp only [List.length_nil]; omega); intro v13 w2 ho hb hg hat; have HO := Aside0.mk ho; have HB2 := Aside0.mk hb; have HGr := Aside0.mk hg; clear ho hb hg hat))
  clear HGr d0 d1 d2 d3 HB1
  rw [List.nil_append] at HO
  obtain ⟨A13, c13, ev13, hA13⟩ : ∃ A13 c13, v13 = .slice A13 l0.length c13 ∧ (0 < l0.length → ∃ g, A13 = some ⟨g, 0, none⟩ ∧ w.heap.size ≤ g) := by
    rcases own_head HO.out with ⟨e, h⟩ | ⟨g, cap, e, h⟩
    · exact ⟨none, 0, by rw [e, h]; rfl, fun h1 => by rw [h] at h1; simp at h1⟩
    · exact ⟨_, _, e, fun _ => ⟨g, rfl, h⟩⟩
  subst ev13
  have HA := Aside0.mk hA13
  clear hA13
  go_loopw [14] (fun v14 wl => ∃ (i : Nat) (xs : List Int), v14 = .int .i64 i ∧ i ≤ l0.length ∧ Aside0 (xs.length = l0.length ∧ ∀ x ∈ xs, 0 ≤ x ∧ x < 256) ∧ Aside0 (Kd.R (Kd.int .u8) 5 wl w.heap.size (fun _ => True) (.slice A13 l0.length c13) xs) ∧ Aside0 (Below w.heap.size w wl))
    (fun i _ => l0.length - (intOf i).toNat)
  case atStart => exact ⟨0, l0, rfl, Nat.zero_le _, ⟨rfl, HL.out.1⟩, HO, HB2⟩
  case round =>
    obtain ⟨i, xs, rfl, hi, HX, HOx, HBx⟩ := hrel
    clear HO HB2
    by_cases hlt : i < l0.length
    · have hd : decide ((i : Int) < (l0.length : Int)) = true := decide_eq_true (by omega)
      have hq0 := eq_true (show (0 : Int) ≤ (i : Int) by omega)
      have hq1 := eq_true (show (i : Int) < (l0.length : Int) by omega)
      obtain ⟨g, rfl, hg⟩ := HA.out (by omega)
      have hox := HOx.out
      rw [← HX.out.1] at hox
      obtain ⟨hcl, hfr⟩ := Kd.R_cell (0 : Int) hox (i : Int) (by omega) (by have := HX.out.1; omega)
      obtain ⟨hput, hgr⟩ := Kd.R_put hox (i : Int) (Go.bits .and .u8 (rd xs (i : Int)) 3)
      rw [Int.toNat_natCast] at hcl hfr hput hgr
      have hby := and3 (rd xs (i : Int)) (by rw [DeltaM.rd_at xs i (by have := HX.out.1; omega)]; exact HX.out.2 _ (List.getElem_mem _))
      have ew : wrap64 ((i : Int) + 1) = ((i + 1 : Nat) : Int) := by rw [Zig.w64_id _ (by have := HG.out; omega) (by have := HG.out; omega)]; omega
      have EW := Aside0.mk ew
      have HPUT : Aside0 (Kd.R (Kd.int .u8) 5 (wr.setCell ⟨g, i, none⟩ (.int .u8 (Go.bits .and .u8 (rdOf 0 xs (i : Int)) 3))) w.heap.size (fun _ => True) (.slice (some ⟨g, 0, none⟩) l0.length c13) (xs.set i (Go.bits .and .u8 (rd xs (i : Int)) 3))) := ⟨by rw [← HX.out.1]; exact hput⟩
      have hn := eq_true hlt
      clear hput hgr hox ew
      go_wp2
      refine ⟨⟨i + 1, _, by rw [EW.out], by omega, ⟨by rw [List.length_set]; exact HX.out.1, fun x hx => ?_⟩, HPUT, ⟨HBx.out.setCell (p := ⟨g, i, none⟩) hg _⟩⟩, by rw [EW.out]; simp only [intOf]; omega⟩
      rcases List.mem_or_eq_of_mem_set hx with hx | hx
      · exact HX.out.2 x hx
      · rw [hx]; exact hby
    · have hd : decide ((i : Int) < (l0.length : Int)) = false := decide_eq_false (by omega)
      have hn := eq_false hlt
      clear hlt hi
      obtain ⟨ta, ta1, ta2, ta3⟩ := twist_f l0 l2 (by have := HG.out; omega) HL.out.1 (by have := HG.out; omega) HL.out.2.2.1
      obtain ⟨tb, tb1, tb2, tb3⟩ := twist_f xs l2 (by have := HG.out; have := HX.out.1; omega) HX.out.2 (by have := HG.out; omega) HL.out.2.2.1
      have HT := Aside0.mk (show (ta.length ≤ 240 ∧ tb.length ≤ 240) ∧ (∀ x ∈ ta, 0 ≤ x ∧ x < 256) ∧ (∀ x ∈ tb, 0 ≤ x ∧ x < 256) from ⟨by have := HG.out; omega, ta3, tb3⟩)
      have HTa := Aside0.mk (ta1 300000 (by have := HG.out; omega))
      have HTb := Aside0.mk (tb1 300000 (by have := HG.out; omega))
      clear ta1 ta2 ta3 tb1 tb2 tb3
      have hox := HOx.out
      obtain ⟨hx1, hx2, hx3⟩ := Kd.R_reads' hox
      have HCx := Aside0.mk hx3
      have HDx := Aside0.mk hx2
      rw [hx1] at hx2
      have hxl := HX.out.1
      clear hox hx1 hx2 hx3
      go_wp2_with fail
      clear hd hn
      refine (repriselaw5_twist.calls 300000 A0 c0 l0 A2 c2 l2 ta wr (Kd.C_below HR0.out HBx.out) HC.out.1 (Kd.C_below HR2.out HBx.out) HC.out.2.2.1 HTa.out).mono ?_
      rintro e w3 ⟨v3, rfl, ho3, hb3⟩
      obtain ⟨A5, c5, rfl⟩ := Kd.R_slice ho3
      have HC5 := Aside0.mk (Kd.R_reads' ho3).2
      have HB3 := Aside0.mk hb3
      clear ho3 hb3
      have hcall := repriselaw5_twist.calls 300000 A13 c13 xs A2 c2 l2 tb w3 (Kd.C_below HCx.out HB3.out) (by rw [hxl]; exact HDx.out) (Kd.C_below (Kd.C_below HR2.out HBx.out) HB3.out) HC.out.2.2.1 HTb.out
      rw [hxl] at hcall
      have HCALL := Aside0.mk hcall
      have HXL := Aside0.mk hxl
      clear hcall hxl
      go_wp2_with fail
      refine HCALL.out.mono ?_
      clear HCALL
      rintro e w4 ⟨v4, rfl, ho4, hb4⟩
      obtain ⟨A6, c6, rfl⟩ := Kd.R_slice ho4
      have HC6 := Aside0.mk (Kd.R_reads' ho4).2
      have HB4 := Aside0.mk hb4
      clear ho4 hb4
      have hB34 : Below wr.heap.size wr w4 := below_step HB3.out HB4.out
      have hBw4 : Below w.heap.size w w4 := below_step HBx.out hB34
      have k0 : okS w4 (A0, c0, l0) := ⟨Kd.C_below HR0.out hBw4, HC.out.1, by have := HG.out; simp only; omega, HL.out.1⟩
      have k1 : okS w4 (A1, c1, l1) := ⟨Kd.C_below HR1.out hBw4, HC.out.2.1, by have := HG.out; simp only; omega, HL.out.2.1⟩
      have k3 : okS w4 (A3, c3, l3) := ⟨Kd.C_below HR3.out hBw4, HC.out.2.2.2, by have := HG.out; simp only; omega, HL.out.2.2.2⟩
      have kx : okS w4 (A13, c13, xs) := ⟨Kd.C_below HCx.out hB34, by rw [HXL.out]; exact HDx.out, by have := HG.out; have := HXL.out; simp only; omega, HX.out.2⟩
      have ka : okS w4 (A5, c5, ta) := ⟨Kd.C_below HC5.out.2 HB4.out, HC5.out.1, HT.out.1.1, HT.out.2.1⟩
      have kb : okS w4 (A6, c6, tb) := ⟨HC6.out.2, HC6.out.1, HT.out.1.2, HT.out.2.2⟩
      have kn : okS w4 (none, 0, []) := ⟨Kd.C_nil _ _, by simp, by simp, by simp⟩
      have HK := Aside0.mk (And.intro k0 (And.intro k1 (And.intro k3 (And.intro kx (And.intro ka (And.intro kb kn))))))
      have HBW4 := Aside0.mk hBw4
      clear k0 k1 k3 kx ka kb kn hB34 hBw4
      go_wp2_with fail
      have hcells := cells_lit w4 [.slice A0 l0.length c0, .slice A1 l1.length c1, .slice A0 l0.length c0, .slice A5 ta.length c5, .slice A13 l0.length c13, .slice A6 tb.length c6, .slice A13 l0.length c13, .slice A13 l0.length c13, .slice none 0 0, .slice A1 l1.length c1] 56
      have hal : Below w4.heap.size w4 (w4.alloc (.cells #[.slice A0 l0.length c0, .slice A1 l1.length c1, .slice A0 l0.length c0, .slice A5 ta.length c5, .slice A13 l0.length c13, .slice A6 tb.length c6, .slice A13 l0.length c13, .slice A13 l0.length c13, .slice none 0 0, .slice A1 l1.length c1] 56)) := (Below.refl _ _).alloc (Nat.le_refl _) _
      have hcells' : ∀ j u, ([.slice A0 l0.length c0, .slice A1 l1.length c1, .slice A0 l0.length c0, .slice A5 ta.length c5, .slice A13 l0.length c13, .slice A6 tb.length c6, .slice A13 l0.length c13, .slice A13 l0.length c13, .slice none 0 0, .slice A1 l1.length c1] : List Value)[j]? = some u → (w4.alloc (.cells #[.slice A0 l0.length c0, .slice A1 l1.length c1, .slice A0 l0.length c0, .slice A5 ta.length c5, .slice A13 l0.length c13, .slice A6 tb.length c6, .slice A13 l0.length c13, .slice A13 l0.length c13, .slice none 0 0, .slice A1 l1.length c1] 56)).cell? ⟨w4.heap.size, j, none⟩ = some u := hcells
      clear hcells
      generalize w4.alloc (.cells #[.slice A0 l0.length c0, .slice A1 l1.length c1, .slice A0 l0.length c0, .slice A5 ta.length c5, .slice A13 l0.length c13, .slice A6 tb.length c6, .slice A13 l0.length c13, .slice A13 l0.length c13, .slice none 0 0, .slice A1 l1.length c1] 56) = W at *
      have hps : ∃ L : List (DeltaM.Sl × DeltaM.Sl), L.length = 5 ∧ (∀ j (h : j < L.length), W.cell? ⟨w4.heap.size, 2 * j, none⟩ = some (.slice L[j].1.1 L[j].1.2.2.length L[j].1.2.1) ∧ W.cell? ⟨w4.heap.size, 2 * j + 1, none⟩ = some (.slice L[j].2.1 L[j].2.2.2.length L[j].2.2.1)) ∧ (∀ p ∈ L, okS W p.1 ∧ okS W p.2) ∧ okS W (A3, c3, l3) := by
        have hk := HK.out
        refine ⟨[((A0, c0, l0), (A1, c1, l1)), ((A0, c0, l0), (A5, c5, ta)), ((A13, c13, xs), (A6, c6, tb)), ((A13, c13, xs), (A13, c13, xs)), ((none, 0, []), (A1, c1, l1))], rfl, fun j h => ?_, fun p hp => ?_, hk.2.2.1.below hal⟩
        · have hx := HXL.out
          match j, h with
          | 0, _ => exact ⟨hcells' 0 _ rfl, hcells' 1 _ rfl⟩
          | 1, _ => exact ⟨hcells' 2 _ rfl, hcells' 3 _ rfl⟩
          | 2, _ => exact ⟨by rw [hcells' 4 _ rfl]; simp only [List.getElem_cons_succ, List.getElem_cons_zero, hx], hcells' 5 _ rfl⟩
          | 3, _ => exact ⟨by rw [hcells' 6 _ rfl]; simp only [List.getElem_cons_succ, List.getElem_cons_zero, hx], by rw [hcells' 7 _ rfl]; simp only [List.getElem_cons_succ, List.getElem_cons_zero, hx]⟩
          | 4, _ => exact ⟨hcells' 8 _ rfl, hcells' 9 _ rfl⟩
          | (j + 5), h => exact absurd h (by simp)
        · simp only [List.mem_cons, List.not_mem_nil, or_false] at hp
          rcases hp with rfl | rfl | rfl | rfl | rfl
          · exact ⟨hk.1.below hal, hk.2.1.below hal⟩
          · exact ⟨hk.1.below hal, hk.2.2.2.2.1.below hal⟩
          · exact ⟨hk.2.2.2.1.below hal, hk.2.2.2.2.2.1.below hal⟩
          · exact ⟨hk.2.2.2.1.below hal, hk.2.2.2.1.below hal⟩
          · exact ⟨hk.2.2.2.2.2.2.below hal, hk.2.1.below hal⟩
      obtain ⟨L, hL5, hLc, hLo, hL3⟩ := hps
      have HLC := Aside0.mk hLc
      have HLO := Aside0.mk hLo
      have HL3 := Aside0.mk hL3
      have HL5 := Aside0.mk hL5
      have HBW : Aside0 (Below w.heap.size w W) := ⟨below_step HBW4.out hal⟩
      have hgW : w4.heap.size < W.heap.size := World.block_lt_of_cell? _ _ (hcells' 0 _ rfl)
      have HGW := Aside0.mk hgW
      clear hLc hLo hL3 hL5 hal hcells' hgW HK HBW4 HB4 HC6 HC5 HB3 HT HTa HTb HCx HDx HXL HOx HBx HX HR0 HR1 HR2 HR3
      generalize w4.heap.size = g at *
      go_loopw [82] (fun v82 wl => ∃ j : Nat, v82 = .int .i64 j ∧ j ≤ 5 ∧ Aside0 (Below W.heap.size W wl)) (fun i _ => 5 - (intOf i).toNat)
      case atStart => exact ⟨0, rfl, by omega, ⟨Below.refl _ _⟩⟩
      case round =>
        obtain ⟨j, rfl, hj, HBl⟩ := hrel
        by_cases hlt : j < 5
        · have hd : decide ((j : Int) < 5) = true := decide_eq_true (by omega)
          have hjL : j < L.length := by rw [HL5.out]; exact hlt
          obtain ⟨hcx, hcy⟩ := HLC.out j hjL
          have hok := HLO.out L[j] (List.getElem_mem hjL)
          generalize L[j] = pr at *
          obtain ⟨⟨Ax, cx, xx⟩, ⟨Ay, cy, yy⟩⟩ := pr
          dsimp only at hcx hcy hok
          have hcx' : wr.cell? ⟨g, j * 2, none⟩ = some (.slice Ax xx.length cx) := by rw [Nat.mul_comm, HBl.out.cell (World.block_lt_of_cell? _ _ hcx)]; exact hcx
          have hcy' : wr.cell? ⟨g, j * 2 + 1, none⟩ = some (.slice Ay yy.length cy) := by rw [Nat.mul_comm, HBl.out.cell (World.block_lt_of_cell? _ _ hcy)]; exact hcy
          have HOX := Aside0.mk (hok.1.below HBl.out)
          have HOY := Aside0.mk (hok.2.below HBl.out)
          clear hcx hcy hok
          go_wp2_with fail
          have hmk := make_f xx yy (by have := HOX.out.2.2.1; simp only at this; omega) (by have := HOY.out.2.2.1; simp only at this; omega) HOX.out.2.2.2 HOY.out.2.2.2
          have hmr := rmake_f 300000 xx yy (by have := HOX.out.2.2.1; simp only at this; omega) (by have := HOY.out.2.2.1; simp only at this; omega) (by decide)
          have HMK := Aside0.mk hmk
          have HMR := Aside0.mk hmr
          have hal := cells_lit wr [.slice Ax xx.length cx, .slice Ay yy.length cy] 56
          have hbl : Below wr.heap.size wr (wr.alloc (.cells #[.slice Ax xx.length cx, .slice Ay yy.length cy] 56)) := (Below.refl _ _).alloc (Nat.le_refl _) _
          have hp0 : (wr.alloc (.cells #[.slice Ax xx.length cx, .slice Ay yy.length cy] 56)).drew.cell? ⟨wr.heap.size, 0, none⟩ = some (.slice Ax xx.length cx) := hal 0 _ rfl
          have hp1 : (wr.alloc (.cells #[.slice Ax xx.length cx, .slice Ay yy.length cy] 56)).drew.cell? ⟨wr.heap.size, 1, none⟩ = some (.slice Ay yy.length cy) := hal 1 _ rfl
          have n0_ := Aside0.mk (HOX.out.below hbl.drew)
          have n1_ := Aside0.mk (HOY.out.below hbl.drew)
          have HBp := Aside0.mk (below_step HBl.out hbl.drew)
          have HP0 := Aside0.mk hp0
          have HP1 := Aside0.mk hp1
          clear HOX HOY hp0 hp1 hal hbl hmk hmr hcx' hcy'
          have HOX := n0_
          have HOY := n1_
          clear n0_ n1_
          generalize wr.heap.size = gp at *
          refine start_ (n := 12) (S := fun w' => w'.cell? ⟨gp, 0, none⟩ = some (.slice Ax xx.length cx) ∧ w'.cell? ⟨gp, 1, none⟩ = some (.slice Ay yy.length cy)) (ds := []) #[false, false, false, false, false, false, false, false, false, false, false, false] (by kernel_rfl) rfl rfl ⟨HP0.out, HP1.out⟩ (fun hHeld => ?_); refine with_tabW repriselaw5_DeltaTells.tab13 repriselaw5_DeltaTells.bits13 (fun HT_ HW_ => ?_)
          generalize World.drew _ = w4 at HOX HOY HBp HP0 HP1 hHeld ⊢
          refine pure_ (i := 0) (N := some 86) (v := ?_) (a' := ?_) #[true, false, false, false, false, false, false, false, false, false, false, false] rfl rfl (any_of HT_.out (by kernel_rfl)) (fun _ _ _ h => h) (Or.inl ⟨by rfl, ?_⟩) ?_ ?_
          rotate_left
          · intro w'
            go_simp
            with_reducible rfl
          rotate_left
          · simp only [Act.put, List.setIfInBounds_toArray, List.set_cons_zero, List.set_cons_succ, i64_w, i32_w]
            rfl
          refine take_ (i := 1) (N := some 87) (v := ?_) (a' := ?_) #[true, true, false, false, false, false, false, false, false, false, false, false] rfl rfl (take_ofW HT_.out HW_.out (by kernel_rfl)) (fun _ _ _ h => h) (Or.inl ⟨by rfl, ?_⟩) hHeld ?_ ?_
          rotate_left
          · rintro w' ⟨s0, s1⟩
            go_simp
            with_reducible rfl
          rotate_left
          · simp only [Act.put, List.setIfInBounds_toArray, List.set_cons_zero, List.set_cons_succ, i64_w, i32_w]
            rfl
          refine pure_ (i := 2) (N := some 88) (v := ?_) (a' := ?_) #[true, true, true, false, false, false, false, false, false, false, false, false] rfl rfl (any_of HT_.out (by kernel_rfl)) (fun _ _ _ h => h) (Or.inl ⟨by rfl, ?_⟩) ?_ ?_
          rotate_left
          · intro w'
            go_simp
            with_reducible rfl
          rotate_left
          · simp only [Act.put, List.setIfInBounds_toArray, List.set_cons_zero, List.set_cons_succ, i64_w, i32_w]
            rfl
          refine take_ (i := 3) (N := some 89) (v := ?_) (a' := ?_) #[true, true, true, true, false, false, false, false, false, false, false, false] rfl rfl (take_ofW HT_.out HW_.out (by kernel_rfl)) (fun _ _ _ h => h) (Or.inl ⟨by rfl, ?_⟩) hHeld ?_ ?_
          rotate_left
          · rintro w' ⟨s0, s1⟩
            go_simp
            with_reducible rfl
          rotate_left
          · simp only [Act.put, List.setIfInBounds_toArray, List.set_cons_zero, List.set_cons_succ, i64_w, i32_w]
            rfl
          refine pure_ (i := 5) (N := some 91) (v := ?_) (a' := ?_) #[true, true, true, true, false, true, false, false, false, false, false, false] rfl rfl (any_of HT_.out (by kernel_rfl)) (fun _ _ _ h => h) (Or.inl ⟨by rfl, ?_⟩) ?_ ?_
          rotate_left
          · intro w'
            go_simp
            with_reducible rfl
          rotate_left
          · simp only [Act.put, List.setIfInBounds_toArray, List.set_cons_zero, List.set_cons_succ, i64_w, i32_w]
            rfl
          refine take_ (i := 6) (N := some 92) (v := ?_) (a' := ?_) #[true, true, true, true, false, true, true, false, false, false, false, false] rfl rfl (take_ofW HT_.out HW_.out (by kernel_rfl)) (fun _ _ _ h => h) (Or.inl ⟨by rfl, ?_⟩) hHeld ?_ ?_
          rotate_left
          · rintro w' ⟨s0, s1⟩
            go_simp
            with_reducible rfl
          rotate_left
          · simp only [Act.put, List.setIfInBounds_toArray, List.set_cons_zero, List.set_cons_succ, i64_w, i32_w]
            rfl
          refine pure_ (i := 7) (N := some 93) (v := ?_) (a' := ?_) #[true, true, true, true, false, true, true, true, false, false, false, false] rfl rfl (any_of HT_.out (by kernel_rfl)) (fun _ _ _ h => h) (Or.inl ⟨by rfl, ?_⟩) ?_ ?_
          rotate_left
          · intro w'
            go_simp
            with_reducible rfl
          rotate_left
          · simp only [Act.put, List.setIfInBounds_toArray, List.set_cons_zero, List.set_cons_succ, i64_w, i32_w]
            rfl
          refine take_ (i := 8) (N := some 94) (v := ?_) (a' := ?_) #[true, true, true, true, false, true, true, true, true, false, false, false] rfl rfl (take_ofW HT_.out HW_.out (by kernel_rfl)) (fun _ _ _ h => h) (Or.inl ⟨by rfl, ?_⟩) hHeld ?_ ?_
          rotate_left
          · rintro w' ⟨s0, s1⟩
            go_simp
            with_reducible rfl
          rotate_left
          · simp only [Act.put, List.setIfInBounds_toArray, List.set_cons_zero, List.set_cons_succ, i64_w, i32_w]
            rfl
          refine one_ (i := 4) (N := some 90) #[true, true, true, true, true, true, true, true, true, false, false, false] rfl rfl (one_of HT_.out (by kernel_rfl)) (by decide) (fun K hK => ?_)
          refine goes_ Try.func28 (by kernel_rfl) rfl #[.slice Ax xx.length cx, .slice Ay yy.length cy] (by rfl) rfl rfl (by (try simp only [List.map_toArray, List.map_cons, List.map_nil]); first | done | rfl) ?_
          refine (delta_Make.calls _ _ xx _ _ yy (DeltaM.make xx yy) _ HOX.out.1 HOX.out.2.1 HOY.out.1 HOY.out.2.1 HMK.out).mono ?_
          rintro e w5 ⟨v5, rfl, ho5, hb5⟩
          refine ⟨_, rfl, ?_⟩
          have n0_ := Aside0.mk (HOX.out.below hb5)
          have n1_ := Aside0.mk (HOY.out.below hb5)
          have n2_ := Aside0.mk (below_then HBp.out HBp.out.size hb5)
          have n3_ := Aside0.mk (cell_below_ HP0.out hb5)
          have n4_ := Aside0.mk (cell_below_ HP1.out hb5)
          obtain ⟨A7, c7, rfl⟩ := Kd.R_slice ho5
          have HM5 := Aside0.mk (Kd.R_reads' ho5).2
          clear HOX HOY HBp HP0 HP1
          have HOX := n0_
          have HOY := n1_
          have HBp := n2_
          have HP0 := n3_
          have HP1 := n4_
          clear n0_ n1_ n2_ n3_ n4_ ho5 hb5
          refine hK.out _ _ ⟨HP0.out, HP1.out⟩ (fun hHeld => ?_)
          clear hK K
          refine norm_ (a' := ?_) ?_ ?_
          rotate_left
          · show Act.put _ (some 90) _ = _
            simp only [Act.put, List.setIfInBounds_toArray, List.set_cons_zero, List.set_cons_succ, i64_w, i32_w]
            rfl
          refine one_ (i := 9) (N := some 95) #[true, true, true, true, true, true, true, true, true, true, false, false] rfl rfl (one_of HT_.out (by kernel_rfl)) (by decide) (fun K hK => ?_)
          refine goes_ Try.func29 (by kernel_rfl) rfl #[.slice Ax xx.length cx, .slice Ay yy.length cy] (by rfl) rfl rfl (by (try simp only [List.map_toArray, List.map_cons, List.map_nil]); first | done | rfl) ?_
          refine (repriseref5_Make.calls 300000 _ _ xx _ _ yy (DeltaM.make xx yy) _ HOX.out.1 HOX.out.2.1 HOY.out.1 HOY.out.2.1 HMR.out).mono ?_
          rintro e w6 ⟨v6, rfl, ho6, hb6⟩
          refine ⟨_, rfl, ?_⟩
          have n0_ := Aside0.mk (HOX.out.below hb6)
          have n1_ := Aside0.mk (HOY.out.below hb6)
          have n2_ := Aside0.mk (below_then HBp.out HBp.out.size hb6)
          have n3_ := Aside0.mk (cell_below_ HP0.out hb6)
          have n4_ := Aside0.mk (cell_below_ HP1.out hb6)
          obtain ⟨A8, c8, rfl⟩ := Kd.R_slice ho6
          have HM6 := Aside0.mk (Kd.R_reads' ho6).2
          have n5_ := Aside0.mk (And.intro HM5.out.1 (Kd.C_below HM5.out.2 hb6))
          clear HM5
          have HM5 := n5_
          clear n5_
          clear HOX HOY HBp HP0 HP1
          have HOX := n0_
          have HOY := n1_
          have HBp := n2_
          have HP0 := n3_
          have HP1 := n4_
          clear n0_ n1_ n2_ n3_ n4_ ho6 hb6
          refine hK.out _ _ ⟨HP0.out, HP1.out⟩ (fun hHeld => ?_)
          clear hK K
          refine norm_ (a' := ?_) ?_ ?_
          rotate_left
          · show Act.put _ (some 95) _ = _
            simp only [Act.put, List.setIfInBounds_toArray, List.set_cons_zero, List.set_cons_succ, i64_w, i32_w]
            rfl
          refine pure_ (i := 10) (N := some 17) (v := ?_) (a' := ?_) #[true, true, true, true, true, true, true, true, true, true, true, false] rfl rfl (any_of HT_.out (by kernel_rfl)) (fun _ _ _ h => h) (Or.inl ⟨by rfl, ?_⟩) ?_ ?_
          rotate_left
          · intro w'
            go_simp
            with_reducible rfl
          rotate_left
          · simp only [Act.put, List.setIfInBounds_toArray, List.set_cons_zero, List.set_cons_succ, i64_w, i32_w]
            rfl
          refine pure_ (i := 11) (N := some 18) (v := ?_) (a' := ?_) #[true, true, true, true, true, true, true, true, true, true, true, true] rfl rfl (any_of HT_.out (by kernel_rfl)) (fun _ _ _ h => h) (Or.inl ⟨by rfl, ?_⟩) ?_ ?_
          rotate_left
          · intro w'
            go_simp
            with_reducible rfl
          rotate_left
          · simp only [Act.put, List.setIfInBounds_toArray, List.set_cons_zero, List.set_cons_succ, i64_w, i32_w]
            rfl
          refine done_ (done_of HT_.out (by kernel_rfl)) ?_
          have HML := Aside0.mk (show (DeltaM.make xx yy).length ≤ 60000 ∧ ∀ x ∈ DeltaM.make xx yy, 0 ≤ x ∧ x < 256 from by
            obtain ⟨ps, p1, p2, p3⟩ := DeltaM.make_parts xx yy HOY.out.2.2.2
            have hb1 := HOY.out.2.2.1
            have hb0 := HOX.out.2.2.1
            simp only at hb1 hb0
            have hbl := DeltaM.parts_blen xx (by omega) ps p3 (by rw [p2]; omega)
            rw [p2, ← p1] at hbl
            exact ⟨by omega, by rw [p1]; exact DeltaM.parts_byte xx ps p3⟩)
          clear HMK HMR
          generalize DeltaM.make xx yy = M at *
          have hcv1 : (convert 22 9 (.slice A7 M.length c7)).run Try.prog w6 = .ok (.string (strOfNums M)) w6 := Kd.C_string (P := Try.prog) (c := c7) Try.underlying22 Try.underlying5 Try.underlying9 HM5.out.2
          have hcv2 : (convert 22 9 (.slice A8 M.length c8)).run Try.prog w6 = .ok (.string (strOfNums M)) w6 := Kd.C_string (P := Try.prog) (c := c8) Try.underlying22 Try.underlying5 Try.underlying9 HM6.out.2
          have hsn : ((strOfNums M).toList != (strOfNums M).toList) = false := by simp
          by_cases hz0 : 0 < M.length
          · have hd1 : decide ((0 : Int) < (M.length : Int)) = true := decide_eq_true (by omega)
            have hd2 := eq_true hz0
            obtain ⟨q, hq, hql⟩ : ∃ q : Nat, Int.tmod (wrap64 a5) (M.length : Int) = (q : Int) ∧ q < M.length := by
              have h5 := H5.out
              have e1 : wrap64 a5 = a5 := Zig.w64_id _ (by omega) (by omega)
              have e2 : Int.tmod a5 (M.length : Int) = a5 % M.length := Int.tmod_eq_emod_of_nonneg h5.1
              have e3 := Int.emod_nonneg a5 (b := (M.length : Int)) (by omega)
              have e4 := Int.emod_lt_of_pos a5 (b := (M.length : Int)) (by omega)
              rw [e1, e2]
              exact ⟨(a5 % (M.length : Int)).toNat, by omega, by omega⟩
            have hq0 := eq_true (show (0 : Int) ≤ (q : Int) by omega)
            have hq1 := eq_true (show (q : Int) < (M.length : Int) by omega)
            have hq2 := eq_true hql
            have hm0 : ((M.length : Int) == 0) = false := beq_eq_false_iff_ne.mpr (by omega)
            have hm1 : ¬ (M.length = 0) := by omega
            have hm2 : ¬ (M = []) := fun h => by rw [h] at hz0; simp at hz0
            go_wp2_with (first | ((with_reducible refine gate_builtin (b := .append) (xs := #[.const (.slice none 0 0), .tmp 101]) rfl ?_); at_builtin; refine Kd.R_append_rows (Kd.int .u8) (w0 := w6) w6.heap.size rfl (.const (.slice none 0 0)) (.tmp 101) 22 5 (.int .u8 0) 1 rfl Try.underlying22 info5 rfl (by decide) (by omega) (.slice none 0 0) ([] : List Int) M _ _ _ (fun _ => True) (fun _ => False) rfl rfl ?aO ?aR (fun _ _ h => h) (fun _ h => h.elim) ?aF ?aB ?aS ?aL ?_; (case aR => exact HM6.out.2); (case aB => exact Below.refl _ _); (case aF => exact (fun _ _ => trivial)); (case aO => exact (Kd.R_nil _ _ _ _ _)); (case aS => exact Nat.le_refl _); (case aL => have := HML.out.1; simp only [List.length_nil]; omega); intro v7 w7 ho hb hg hat; rw [List.nil_append] at ho; have HZ := Aside0.mk ho; have HB7 := Aside0.mk hb; clear ho hb hg hat; obtain ⟨Az, cz, ez, hAz⟩ := head_ HZ.out; subst ez; obtain ⟨gz, rfl, hgz⟩ := hAz hz0; obtain ⟨hcl, hfr⟩ := Kd.R_cell (0 : Int) HZ.out (q : Int) (Int.natCast_nonneg q) (Int.ofNat_lt.2 hql); rw [Int.toNat_natCast] at hcl hfr; have HGZ := Aside0.mk hgz; clear hAz hgz))
            have hxv := xor8 (rdOf 0 M (q : Int)) ((Int.tdiv a5 16 + 1) % 256) (by
              have := HML.out.2 (rd M (q : Int)) (by rw [DeltaM.rd_at M q hql]; exact List.getElem_mem hql)
              exact this.1) (by
              have := HML.out.2 (rd M (q : Int)) (by rw [DeltaM.rd_at M q hql]; exact List.getElem_mem hql)
              exact this.2) (by omega) (by omega)
            generalize Go.bits .xor .u8 (rdOf 0 M (q : Int)) ((Int.tdiv a5 16 + 1) % 256) = V at *
            obtain ⟨hput, _⟩ := Kd.R_put HZ.out (q : Int) V
            rw [Int.toNat_natCast] at hput
            have HB8 : Aside0 (Below w6.heap.size w6 (w7.setCell ⟨gz, q, none⟩ (.int .u8 V))) := ⟨HB7.out.setCell (p := ⟨gz, q, none⟩) HGZ.out _⟩
            clear HZ HB7 HGZ hcl hfr hq hq0 hq1 hq2 hm0 hm1 hm2
            generalize w7.setCell ⟨gz, q, none⟩ (.int .u8 V) = w8 at *
            have HZZ : Aside0 (okT w8 (some ⟨gz, 0, none⟩, cz, M.set q V)) := ⟨by
              have h_ := Kd.R_reads' (show Kd.R (Kd.int .u8) 5 w8 w6.heap.size (fun _ => True) (.slice (some ⟨gz, 0, none⟩) (M.set q V).length cz) (M.set q V) from by rw [List.length_set]; exact hput)
              exact ⟨h_.2.2, h_.2.1, by rw [List.length_set]; exact Nat.le_trans HML.out.1 (by decide), fun x hx => (List.mem_or_eq_of_mem_set hx).elim (HML.out.2 x) (fun e => e ▸ hxv)⟩⟩
            have hzl : (M.set q V).length = M.length := List.length_set
            have HZL := Aside0.mk hzl
            clear hput hxv hzl
            generalize M.set q V = Z at *
            generalize hAzz : (some (⟨gz, 0, none⟩ : Addr)) = Az at *
            clear hAzz
            have n0_ := Aside0.mk (HOX.out.below HB8.out)
            have n1_ := Aside0.mk (HOY.out.below HB8.out)
            have n2_ := Aside0.mk (below_then HBp.out HBp.out.size HB8.out)
            have n3_ := Aside0.mk (cell_below_ HP0.out HB8.out)
            have n4_ := Aside0.mk (cell_below_ HP1.out HB8.out)
            have n5_ : Aside0 (okT w8 (A8, c8, M)) := ⟨Kd.C_below HM6.out.2 HB8.out, HM6.out.1, Nat.le_trans HML.out.1 (by decide), HML.out.2⟩
            have HDD : Aside0 (okT w8 (A3, c3, l3)) := ⟨((HL3.out.below HBp.out).below HB8.out).1, HL3.out.2.1, by have := HL3.out.2.2.1; simp only at this ⊢; omega, HL3.out.2.2.2⟩
            clear HOX HOY HBp HP0 HP1 HM5 HM6 hcv1 hcv2 hsn hd1 hd2 HB8
            have HOX := n0_
            have HOY := n1_
            have HBp := n2_
            have HP0 := n3_
            have HP1 := n4_
            have HYY := n5_
            clear n0_ n1_ n2_ n3_ n4_ n5_
            obtain ⟨q2, hr2, hr2l⟩ : ∃ q2 : Nat, Int.tmod (wrap64 a5) (wrap64 ((M.length : Int) + 1)) = (q2 : Int) ∧ q2 ≤ M.length := by
              have h5 := H5.out
              have hm := HML.out.1
              have e1 : wrap64 a5 = a5 := Zig.w64_id _ (by omega) (by omega)
              have e0 : wrap64 ((M.length : Int) + 1) = ((M.length + 1 : Nat) : Int) := by rw [Zig.w64_id _ (by omega) (by omega)]; omega
              have e2 : Int.tmod a5 ((M.length + 1 : Nat) : Int) = a5 % ((M.length + 1 : Nat) : Int) := Int.tmod_eq_emod_of_nonneg h5.1
              have e3 := Int.emod_nonneg a5 (b := ((M.length + 1 : Nat) : Int)) (by omega)
              have e4 := Int.emod_lt_of_pos a5 (b := ((M.length + 1 : Nat) : Int)) (by omega)
              rw [e1, e0, e2]
              clear e1 e0 e2
              exact ⟨(a5 % ((M.length + 1 : Nat) : Int)).toNat, by omega, by omega⟩
            have hwn : ¬ (wrap64 ((M.length : Int) + 1) = 0) := by
              have hm := HML.out.1
              rw [Zig.w64_id _ (by omega) (by omega)]; omega
            have hwb : (wrap64 ((M.length : Int) + 1) == 0) = false := beq_eq_false_iff_ne.mpr hwn
            have htl : (M.take q2).length = q2 := by rw [List.length_take]; omega
            obtain ⟨htk, htr, _⟩ := print_take_of (P := Try.prog) (Value.int .u8) (0 : Int) 22 5 .i64 Try.underlying22 (info_parts info5).choose_spec.1 (info_parts info5).choose_spec.2.2.1 A8 c8 M (q2 : Int) (Int.natCast_nonneg q2) (by omega) HYY.out.2.1
            simp only [Int.toNat_natCast] at htk htr
            have HTK : Aside0 (okT w8 (A8, c8, M.take q2)) := ⟨Kd.C_of_reads (h1 := fun _ => rfl) (htr w8 (Kd.reads_of_C (h1 := fun _ => rfl) HYY.out.1)), by have := HYY.out.2.1; simp only at this ⊢; omega, by have := HML.out.1; simp only; omega, fun x hx => HML.out.2 x (List.mem_of_mem_take hx)⟩
            clear htr
            go_wp2_with fail
            have n0_ := Aside0.mk (And.intro (HOX.out.below (Below.refl _ _).drew) (And.intro (HOY.out.below (Below.refl _ _).drew) (And.intro HBp.out.drew (And.intro (show w8.drew.cell? ⟨gp, 0, none⟩ = some (.slice Ax xx.length cx) from HP0.out) (And.intro (show w8.drew.cell? ⟨gp, 1, none⟩ = some (.slice Ay yy.length cy) from HP1.out) (And.intro (HYY.out.below (Below.refl _ _).drew) (And.intro (HZZ.out.below (Below.refl _ _).drew) (And.intro (HDD.out.below (Below.refl _ _).drew) (HTK.out.below (Below.refl _ _).drew)))))))))
            have HS8 := n0_
            have m0_ := Aside0.mk n0_.out.1
            have m1_ := Aside0.mk n0_.out.2.1
            have m2_ := Aside0.mk n0_.out.2.2.1
            have m3_ := Aside0.mk n0_.out.2.2.2.1
            have m4_ := Aside0.mk n0_.out.2.2.2.2.1
            have m5_ := Aside0.mk n0_.out.2.2.2.2.2.1
            have m6_ := Aside0.mk n0_.out.2.2.2.2.2.2.1
            have m7_ := Aside0.mk n0_.out.2.2.2.2.2.2.2.1
            have m8_ := Aside0.mk n0_.out.2.2.2.2.2.2.2.2
            clear HOX HOY HBp HP0 HP1 HYY HZZ HDD HTK n0_
            have HOX := m0_
            have HOY := m1_
            have HBp := m2_
            have HP0 := m3_
            have HP1 := m4_
            have HYY := m5_
            have HZZ := m6_
            have HDD := m7_
            have HTK := m8_
            clear m0_ m1_ m2_ m3_ m4_ m5_ m6_ m7_ m8_
            refine start_ (n := 18) (S := fun w' => True) (ds := []) #[false, false, false, false, false, false, false, false, false, false, false, false, false, false, false, false, false, false] (by kernel_rfl) rfl rfl trivial (fun hHeld => ?_); refine with_tabW repriselaw5_DeltaTells.tab19 repriselaw5_DeltaTells.bits19 (fun HT_ HW_ => ?_)
            generalize World.drew _ = w8 at *
            refine pure_ (i := 0) (N := some 119) (v := ?_) (a' := ?_) #[true, false, false, false, false, false, false, false, false, false, false, false, false, false, false, false, false, false] rfl rfl (any_of HT_.out (by kernel_rfl)) (fun _ _ _ h => h) (Or.inl ⟨by rfl, ?_⟩) ?_ ?_
            rotate_left
            · intro w'
              go_simp
              with_reducible rfl
            rotate_left
            · simp only [Act.put, List.setIfInBounds_toArray, List.set_cons_zero, List.set_cons_succ, i64_w, i32_w]
              rfl
            refine pure_ (i := 1) (N := some 120) (v := ?_) (a' := ?_) #[true, true, false, false, false, false, false, false, false, false, false, false, false, false, false, false, false, false] rfl rfl (any_of HT_.out (by kernel_rfl)) (fun _ _ _ h => h) (Or.inl ⟨by rfl, ?_⟩) ?_ ?_
            rotate_left
            · intro w'
              go_simp
              with_reducible rfl
            rotate_left
            · simp only [Act.put, List.setIfInBounds_toArray, List.set_cons_zero, List.set_cons_succ, i64_w, i32_w]
              rfl
            refine pure_ (i := 2) (N := some 121) (v := ?_) (a' := ?_) #[true, true, true, false, false, false, false, false, false, false, false, false, false, false, false, false, false, false] rfl rfl (any_of HT_.out (by kernel_rfl)) (fun _ _ _ h => h) (Or.inl ⟨by rfl, ?_⟩) ?_ ?_
            rotate_left
            · intro w'
              go_simp
              with_reducible rfl
            rotate_left
            · simp only [Act.put, List.setIfInBounds_toArray, List.set_cons_zero, List.set_cons_succ, i64_w, i32_w]
              rfl
            refine pure_ (i := 3) (N := some 122) (v := ?_) (a' := ?_) #[true, true, true, true, false, false, false, false, false, false, false, false, false, false, false, false, false, false] rfl rfl (any_of HT_.out (by kernel_rfl)) (fun _ _ _ h => h) (Or.inl ⟨by rfl, ?_⟩) ?_ ?_
            rotate_left
            · intro w'
              go_simp
              with_reducible rfl
            rotate_left
            · simp only [Act.put, List.setIfInBounds_toArray, List.set_cons_zero, List.set_cons_succ, i64_w, i32_w]
              rfl
            refine pure_ (i := 4) (N := some 123) (v := ?_) (a' := ?_) #[true, true, true, true, true, false, false, false, false, false, false, false, false, false, false, false, false, false] rfl rfl (any_of HT_.out (by kernel_rfl)) (fun _ _ _ h => h) (Or.inl ⟨by rfl, ?_⟩) ?_ ?_
            rotate_left
            · intro w'
              go_simp
              with_reducible rfl
            rotate_left
            · simp only [Act.put, List.setIfInBounds_toArray, List.set_cons_zero, List.set_cons_succ, i64_w, i32_w]
              rfl
            refine pure_ (i := 5) (N := some 124) (v := ?_) (a' := ?_) #[true, true, true, true, true, true, false, false, false, false, false, false, false, false, false, false, false, false] rfl rfl (any_of HT_.out (by kernel_rfl)) (fun _ _ _ h => h) (Or.inl ⟨by rfl, ?_⟩) ?_ ?_
            rotate_left
            · intro w'
              go_simp
              with_reducible rfl
            rotate_left
            · simp only [Act.put, List.setIfInBounds_toArray, List.set_cons_zero, List.set_cons_succ, i64_w, i32_w]
              rfl
            refine pure_ (i := 6) (N := some 125) (v := ?_) (a' := ?_) #[true, true, true, true, true, true, true, false, false, false, false, false, false, false, false, false, false, false] rfl rfl (any_of HT_.out (by kernel_rfl)) (fun _ _ _ h => h) (Or.inl ⟨by rfl, ?_⟩) ?_ ?_
            rotate_left
            · intro w'
              go_simp
              with_reducible rfl
            rotate_left
            · simp only [Act.put, List.setIfInBounds_toArray, List.set_cons_zero, List.set_cons_succ, i64_w, i32_w]
              rfl
            refine pure_ (i := 7) (N := some 126) (v := ?_) (a' := ?_) #[true, true, true, true, true, true, true, true, false, false, false, false, false, false, false, false, false, false] rfl rfl (any_of HT_.out (by kernel_rfl)) (fun _ _ _ h => h) (Or.inl ⟨by rfl, ?_⟩) ?_ ?_
            rotate_left
            · intro w'
              go_simp
              with_reducible rfl
            rotate_left
            · simp only [Act.put, List.setIfInBounds_toArray, List.set_cons_zero, List.set_cons_succ, i64_w, i32_w]
              rfl
            refine pure_ (i := 8) (N := some 127) (v := ?_) (a' := ?_) #[true, true, true, true, true, true, true, true, true, false, false, false, false, false, false, false, false, false] rfl rfl (any_of HT_.out (by kernel_rfl)) (fun _ _ _ h => h) (Or.inl ⟨by rfl, ?_⟩) ?_ ?_
            rotate_left
            · intro w'
              go_simp
              with_reducible rfl
            rotate_left
            · simp only [Act.put, List.setIfInBounds_toArray, List.set_cons_zero, List.set_cons_succ, i64_w, i32_w]
              rfl
            refine pure_ (i := 9) (N := some 128) (v := ?_) (a' := ?_) #[true, true, true, true, true, true, true, true, true, true, false, false, false, false, false, false, false, false] rfl rfl (any_of HT_.out (by kernel_rfl)) (fun _ _ _ h => h) (Or.inl ⟨by rfl, ?_⟩) ?_ ?_
            rotate_left
            · intro w'
              go_simp
              with_reducible rfl
            rotate_left
            · simp only [Act.put, List.setIfInBounds_toArray, List.set_cons_zero, List.set_cons_succ, i64_w, i32_w]
              rfl
            refine pure_ (i := 10) (N := some 129) (v := ?_) (a' := ?_) #[true, true, true, true, true, true, true, true, true, true, true, false, false, false, false, false, false, false] rfl rfl (any_of HT_.out (by kernel_rfl)) (fun _ _ _ h => h) (Or.inl ⟨by rfl, ?_⟩) ?_ ?_
            rotate_left
            · intro w'
              go_simp
              with_reducible rfl
            rotate_left
            · simp only [Act.put, List.setIfInBounds_toArray, List.set_cons_zero, List.set_cons_succ, i64_w, i32_w]
              rfl
            refine pure_ (i := 11) (N := some 130) (v := ?_) (a' := ?_) #[true, true, true, true, true, true, true, true, true, true, true, true, false, false, false, false, false, false] rfl rfl (any_of HT_.out (by kernel_rfl)) (fun _ _ _ h => h) (Or.inl ⟨by rfl, ?_⟩) ?_ ?_
            rotate_left
            · intro w'
              go_simp
              with_reducible rfl
            rotate_left
            · simp only [Act.put, List.setIfInBounds_toArray, List.set_cons_zero, List.set_cons_succ, i64_w, i32_w]
              rfl
            refine pure_ (i := 13) (N := some 132) (v := ?_) (a' := ?_) #[true, true, true, true, true, true, true, true, true, true, true, true, false, true, false, false, false, false] rfl rfl (any_of HT_.out (by kernel_rfl)) (fun _ _ _ h => h) (Or.inl ⟨by rfl, ?_⟩) ?_ ?_
            rotate_left
            · intro w'
              go_simp
              with_reducible rfl
            rotate_left
            · simp only [Act.put, List.setIfInBounds_toArray, List.set_cons_zero, List.set_cons_succ, i64_w, i32_w]
              rfl
            refine pure_ (i := 17) (N := some 136) (v := ?_) (a' := ?_) #[true, true, true, true, true, true, true, true, true, true, true, true, false, true, false, false, false, true] rfl rfl (any_of HT_.out (by kernel_rfl)) (fun _ _ _ h => h) (Or.inl ⟨by rfl, ?_⟩) ?_ ?_
            rotate_left
            · intro w'
              go_simp
              with_reducible rfl
            rotate_left
            · simp only [Act.put, List.setIfInBounds_toArray, List.set_cons_zero, List.set_cons_succ, i64_w, i32_w]
              rfl
            refine one_ (i := 12) (N := some 131) #[true, true, true, true, true, true, true, true, true, true, true, true, true, true, false, false, false, true] rfl rfl (one_of HT_.out (by kernel_rfl)) (by decide) (fun K hK => ?_)
            refine Kd.R_append_rows_step (Kd.int .u8) (w0 := w8) w8.heap.size (by rfl) (.const (.slice none 0 0)) (.tmp 130) 22 5 (.int .u8 0) 1 rfl Try.underlying22 info5 rfl (by decide) (by omega) (.slice none 0 0) ([] : List Int) M _ _ _ (fun _ => True) (fun _ => False) rfl rfl ?aO ?aR (fun _ _ h => h) (fun _ h => h.elim) ?aF ?aB ?aS ?aL ?_
            (case aR => exact HYY.out.1)
            (case aB => exact Below.refl _ _)
            (case aF => exact (fun _ _ => trivial))
            (case aO => exact (Kd.R_nil _ _ _ _ _))
            (case aS => exact Nat.le_refl _)
            (case aL => have := HML.out.1; have := HG.out; (try simp only [List.length_nil]); omega)
            intro v12 w9 ho hb hg hat
            rw [List.nil_append] at ho
            have HBa := Aside0.mk hb
            have HRa := Aside0.mk ho
            clear ho hg hat
            have n0_ := Aside0.mk (HOX.out.below hb)
            have n1_ := Aside0.mk (HOY.out.below hb)
            have n2_ := Aside0.mk (below_then HBp.out HBp.out.size hb)
            have n3_ := Aside0.mk (cell_below_ HP0.out hb)
            have n4_ := Aside0.mk (cell_below_ HP1.out hb)
            have n5_ := Aside0.mk (HYY.out.below hb)
            have n6_ := Aside0.mk (HZZ.out.below hb)
            have n7_ := Aside0.mk (HDD.out.below hb)
            have n8_ := Aside0.mk (HTK.out.below hb)
            clear HOX HOY HBp HP0 HP1 HYY HZZ HDD HTK
            have HOX := n0_
            have HOY := n1_
            have HBp := n2_
            have HP0 := n3_
            have HP1 := n4_
            have HYY := n5_
            have HZZ := n6_
            have HDD := n7_
            have HTK := n8_
            clear n0_ n1_ n2_ n3_ n4_ n5_ n6_ n7_ n8_
            clear hb
            refine hK.out _ _ trivial (fun hHeld => ?_)
            clear hK K
            refine norm_ (a' := ?_) ?_ ?_
            rotate_left
            · show Act.put _ (some 131) _ = _
              simp only [Act.put, List.setIfInBounds_toArray, List.set_cons_zero, List.set_cons_succ, i64_w, i32_w]
              rfl
            refine one_ (i := 14) (N := some 133) #[true, true, true, true, true, true, true, true, true, true, true, true, true, true, true, false, false, true] rfl rfl (one_of HT_.out (by kernel_rfl)) (by decide) (fun K hK => ?_)
            refine Kd.R_append_rows_step (Kd.int .u8) (w0 := w8) w8.heap.size (by rfl) (.tmp 131) (.tmp 132) 22 5 (.int .u8 0) 1 rfl Try.underlying22 info5 rfl (by decide) (by omega) v12 M l3 _ _ _ (fun _ => True) (fun _ => False) rfl rfl ?aO ?aR (fun _ _ h => h) (fun _ h => h.elim) ?aF ?aB ?aS ?aL ?_
            (case aR => exact HDD.out.1)
            (case aB => exact HBa.out)
            (case aF => exact (fun _ _ => trivial))
            (case aO => exact HRa.out)
            (case aS => exact HBa.out.size)
            (case aL => have := HML.out.1; have := HG.out; (try simp only [List.length_nil]); omega)
            intro v14 w10 ho hb hg hat
            have HRb := Aside0.mk ho
            have hb2 : Below w8.heap.size w8 w10 := hb
            clear ho hg hat hb HRa
            have HB10 := Aside0.mk hb2
            clear hb2 HOX HOY HBp HP0 HP1 HYY HZZ HDD HTK
            have HOX := Aside0.mk (HS8.out.1.below HB10.out)
            have HOY := Aside0.mk (HS8.out.2.1.below HB10.out)
            have HBp := Aside0.mk (below_then HS8.out.2.2.1 HS8.out.2.2.1.size HB10.out)
            have HP0 := Aside0.mk (cell_below_ HS8.out.2.2.2.1 HB10.out)
            have HP1 := Aside0.mk (cell_below_ HS8.out.2.2.2.2.1 HB10.out)
            have HYY := Aside0.mk (HS8.out.2.2.2.2.2.1.below HB10.out)
            have HZZ := Aside0.mk (HS8.out.2.2.2.2.2.2.1.below HB10.out)
            have HDD := Aside0.mk (HS8.out.2.2.2.2.2.2.2.1.below HB10.out)
            have HTK := Aside0.mk (HS8.out.2.2.2.2.2.2.2.2.below HB10.out)
            obtain ⟨A14, c14, rfl⟩ := Kd.R_slice HRb.out
            refine hK.out _ _ trivial (fun hHeld => ?_)
            clear hK K
            refine norm_ (a' := ?_) ?_ ?_
            rotate_left
            · show Act.put _ (some 133) _ = _
              simp only [Act.put, List.setIfInBounds_toArray, List.set_cons_zero, List.set_cons_succ, i64_w, i32_w]
              rfl
            refine one_ (i := 15) (N := some 134) #[true, true, true, true, true, true, true, true, true, true, true, true, true, true, true, true, false, true] rfl rfl (one_of HT_.out (by kernel_rfl)) (by decide) (fun K hK => ?_)
            refine event_step (by rfl) (by go_simp; exact ⟨rfl, rfl⟩) ?_
            refine hK.out _ _ trivial (fun hHeld => ?_)
            clear hK K
            refine norm_ (a' := ?_) ?_ ?_
            rotate_left
            · show Act.put _ (some 134) _ = _
              simp only [Act.put, List.setIfInBounds_toArray, List.set_cons_zero, List.set_cons_succ, i64_w, i32_w]
              rfl
            refine pure_ (i := 16) (N := some 135) (v := ?_) (a' := ?_) #[true, true, true, true, true, true, true, true, true, true, true, true, true, true, true, true, true, true] rfl rfl (any_of HT_.out (by kernel_rfl)) (fun _ _ _ h => h) (Or.inl ⟨by rfl, ?_⟩) ?_ ?_
            rotate_left
            · intro w'
              go_simp
              with_reducible rfl
            rotate_left
            · simp only [Act.put, List.setIfInBounds_toArray, List.set_cons_zero, List.set_cons_succ, i64_w, i32_w]
              rfl
            refine done_ (done_of HT_.out (by kernel_rfl)) ?_
            have hr14 := Kd.R_reads' HRb.out
            have HAB : Aside0 (okT w10 (A14, c14, M ++ l3)) := ⟨hr14.2.2, hr14.2.1, by have := HML.out.1; have := HG.out; simp only [List.length_append]; omega, fun x hx => (List.mem_append.1 hx).elim (HML.out.2 x) (HL.out.2.2.2 x)⟩
            clear hr14 HRb HS8
            have hcells := cells_lit w10 [.slice A3 l3.length c3, .slice A8 M.length c8, .slice Az M.length cz, .slice A8 q2 c8, .slice A14 (M.length + l3.length) c14] 22
            have hal : Below w10.heap.size w10 (w10.alloc (.cells #[.slice A3 l3.length c3, .slice A8 M.length c8, .slice Az M.length cz, .slice A8 q2 c8, .slice A14 (M.length + l3.length) c14] 22)) := (Below.refl _ _).alloc (Nat.le_refl _) _
            have hcells' : ∀ j u, ([.slice A3 l3.length c3, .slice A8 M.length c8, .slice Az M.length cz, .slice A8 q2 c8, .slice A14 (M.length + l3.length) c14] : List Value)[j]? = some u → (w10.alloc (.cells #[.slice A3 l3.length c3, .slice A8 M.length c8, .slice Az M.length cz, .slice A8 q2 c8, .slice A14 (M.length + l3.length) c14] 22)).cell? ⟨w10.heap.size, j, none⟩ = some u := hcells
            clear hcells
            generalize w10.alloc (.cells #[.slice A3 l3.length c3, .slice A8 M.length c8, .slice Az M.length cz, .slice A8 q2 c8, .slice A14 (M.length + l3.length) c14] 22) = W2 at *
            have hps : ∃ L2 : List DeltaM.Sl, L2.length = 5 ∧ (∀ j (h : j < L2.length), W2.cell? ⟨w10.heap.size, j, none⟩ = some (.slice L2[j].1 L2[j].2.2.length L2[j].2.1)) ∧ ∀ p ∈ L2, okT W2 p := by
              refine ⟨[(A3, c3, l3), (A8, c8, M), (Az, cz, Z), (A8, c8, M.take q2), (A14, c14, M ++ l3)], rfl, fun j h => ?_, fun p hp => ?_⟩
              · have hz := HZL.out
                match j, h with
                | 0, _ => exact hcells' 0 _ rfl
                | 1, _ => exact hcells' 1 _ rfl
                | 2, _ => rw [hcells' 2 _ rfl]; simp only [List.getElem_cons_succ, List.getElem_cons_zero, hz]
                | 3, _ => rw [hcells' 3 _ rfl]; simp only [List.getElem_cons_succ, List.getElem_cons_zero, htl]
                | 4, _ => rw [hcells' 4 _ rfl]; simp only [List.getElem_cons_succ, List.getElem_cons_zero, List.length_append]
                | (j + 5), h => exact absurd h (by simp)
              · simp only [List.mem_cons, List.not_mem_nil, or_false] at hp
                rcases hp with rfl | rfl | rfl | rfl | rfl
                · exact HDD.out.below hal
                · exact HYY.out.below hal
                · exact HZZ.out.below hal
                · exact HTK.out.below hal
                · exact HAB.out.below hal
            obtain ⟨L2, hL5, hLc, hLo⟩ := hps
            have HLc2 := Aside0.mk hLc
            have HLo2 := Aside0.mk hLo
            have HLl2 := Aside0.mk hL5
            have m0_ := Aside0.mk (HOX.out.below hal)
            have m1_ := Aside0.mk (HOY.out.below hal)
            have m2_ := Aside0.mk (below_then HBp.out HBp.out.size hal)
            have m3_ := Aside0.mk (cell_below_ HP0.out hal)
            have m4_ := Aside0.mk (cell_below_ HP1.out hal)
            clear HOX HOY HBp HP0 HP1 HYY HZZ HDD HTK HAB hL5 hLc hLo hal hcells' HB10 HZL HML htk htl hr2 hwn hwb hr2l
            have HOX := m0_
            have HOY := m1_
            have HBp := m2_
            have HP0 := m3_
            have HP1 := m4_
            clear m0_ m1_ m2_ m3_ m4_
            generalize w10.heap.size = g2 at *
            try generalize (Int.tdiv a5 16 % 256 + 1) % 256 = y116
            try generalize (M ++ l3).length = n14
            go_wp2
            go_loopw [136] (fun v136 wl => ∃ j2 : Nat, v136 = .int .i64 j2 ∧ j2 ≤ 5 ∧ Aside0 (Below W2.heap.size W2 wl)) (fun i _ => 5 - (intOf i).toNat)
            case atStart => exact ⟨0, rfl, by omega, ⟨Below.refl _ _⟩⟩
            case round =>
              obtain ⟨j2, rfl, hj2, HBm⟩ := hrel
              by_cases hlt2 : j2 < 5
              · have hd : decide ((j2 : Int) < 5) = true := decide_eq_true (by omega)
                have hjL2 : j2 < L2.length := by rw [HLl2.out]; exact hlt2
                have hc2_ := cell_below_ (HLc2.out j2 hjL2) HBm.out
                have HD2 := Aside0.mk ((HLo2.out L2[j2] (List.getElem_mem hjL2)).below HBm.out)
                generalize L2[j2] = pd at *
                obtain ⟨Ad, cd, dd⟩ := pd
                dsimp only at hc2_
                have hp1_ := cell_below_ HP1.out HBm.out
                go_wp2_with fail
                have hcells := cells_lit wr [.int .i64 a4, .int .i64 yy.length, .int .i64 (wrap64 a5)] 3
                have hal : Below wr.heap.size wr (wr.alloc (.cells #[.int .i64 a4, .int .i64 yy.length, .int .i64 (wrap64 a5)] 3)) := (Below.refl _ _).alloc (Nat.le_refl _) _
                have hcells' : ∀ j u, ([.int .i64 a4, .int .i64 yy.length, .int .i64 (wrap64 a5)] : List Value)[j]? = some u → (wr.alloc (.cells #[.int .i64 a4, .int .i64 yy.length, .int .i64 (wrap64 a5)] 3)).cell? ⟨wr.heap.size, j, none⟩ = some u := hcells
                clear hcells
                generalize wr.alloc (.cells #[.int .i64 a4, .int .i64 yy.length, .int .i64 (wrap64 a5)] 3) = W3 at *
                have hms : ∀ j3, j3 < 3 → ∃ mm : Int, W3.cell? ⟨wr.heap.size, j3, none⟩ = some (.int .i64 mm) ∧ -9223372036854775808 ≤ mm ∧ mm < 9223372036854775808 := fun j3 h => by
                  match j3, h with
                  | 0, _ => exact ⟨_, hcells' 0 _ rfl, H4.out⟩
                  | 1, _ => exact ⟨_, hcells' 1 _ rfl, by have := HOY.out.2.2.1; simp only at this; omega⟩
                  | 2, _ => exact ⟨_, hcells' 2 _ rfl, by have := H5.out; rw [Zig.w64_id a5 (by omega) (by omega)]; omega⟩
                  | (j + 3), h => exact absurd h (by omega)
                have HMS := Aside0.mk hms
                have k0_ := Aside0.mk ((HOX.out.below HBm.out).below hal)
                have k1_ := Aside0.mk (HD2.out.below hal)
                have k2_ := Aside0.mk (below_then HBm.out HBm.out.size hal)
                have k3_ := Aside0.mk (cell_below_ (cell_below_ HP0.out HBm.out) hal)
                clear hms hal hcells' hc2_ hp1_
                have hgen : ∃ g3 : Nat, g3 = wr.heap.size := ⟨_, rfl⟩
                generalize wr.heap.size = g3 at *
                go_loopw [148] (fun v148 wl => ∃ j3 : Nat, v148 = .int .i64 j3 ∧ j3 ≤ 3 ∧ Aside0 (Below W3.heap.size W3 wl)) (fun i _ => 3 - (intOf i).toNat)
                case atStart => exact ⟨0, rfl, by omega, ⟨Below.refl _ _⟩⟩
                case round =>
                  obtain ⟨j3, rfl, hj3, HBn⟩ := hrel
                  by_cases hlt3 : j3 < 3
                  · have hd3 : decide ((j3 : Int) < 3) = true := decide_eq_true (by omega)
                    obtain ⟨mm, hmc, hm1, hm2⟩ := HMS.out j3 hlt3
                    have hmc' := cell_below_ hmc HBn.out
                    have hp0' := cell_below_ k3_.out HBn.out
                    have ox := k0_.out.below HBn.out
                    have od := k1_.out.below HBn.out
                    obtain ⟨r, ra, rb⟩ := apply_f xx dd mm (by have := ox.2.2.1; simp only at this; omega) hm1 hm2 od.2.2.1 od.2.2.2
                    obtain ⟨rl, re⟩ := r
                    have OX := Aside0.mk ox
                    have OD := Aside0.mk od
                    have RA := Aside0.mk ra
                    have RB := Aside0.mk rb
                    have HM := Aside0.mk hm1
                    clear hmc ox od ra rb hm1 hm2
                    go_wp2_with fail
                    refine (delta_Apply.calls 300000 Ax cx xx (fun _ => True) Ad cd dd mm rl re _ OX.out.1 OX.out.2.1 (V_of OD.out.2.1 OD.out.1) RA.out).mono ?_
                    rintro e wa ⟨va, rfl, hoa, hba⟩
                    obtain ⟨Aa, ca, rfl⟩ := Kd.R_slice hoa
                    have HCa := Aside0.mk (Kd.R_reads' hoa).2.2
                    have hp0'' := cell_below_ hp0' hba
                    have OX2 := Aside0.mk (OX.out.below hba)
                    have OD2 := Aside0.mk (OD.out.below hba)
                    have HBa := Aside0.mk (below_then HBn.out HBn.out.size hba)
                    clear hoa hba hp0' hmc' OX OD
                    go_wp2_with fail
                    refine (repriseref5_Apply.calls 300000 Ax cx xx (fun _ => True) Ad cd dd mm rl re _ OX2.out.1 OX2.out.2.1 (V_of OD2.out.2.1 OD2.out.1) RB.out).mono ?_
                    rintro e wb ⟨vb, rfl, hob, hbb⟩
                    obtain ⟨Ab, cb, rfl⟩ := Kd.R_slice hob
                    have hcva : (convert 22 9 (.slice Aa rl.length ca)).run Try.prog wb = .ok (.string (strOfNums rl)) wb := Kd.C_string (P := Try.prog) (c := ca) Try.underlying22 Try.underlying5 Try.underlying9 (Kd.C_below HCa.out hbb)
                    have hcvb : (convert 22 9 (.slice Ab rl.length cb)).run Try.prog wb = .ok (.string (strOfNums rl)) wb := Kd.C_string (P := Try.prog) (c := cb) Try.underlying22 Try.underlying5 Try.underlying9 (Kd.R_reads' hob).2.2
                    have hsn : ((strOfNums rl).toList != (strOfNums rl).toList) = false := by simp
                    have hen : (re != re) = false := by simp
                    have HBb := Aside0.mk (below_then HBa.out HBa.out.size hbb)
                    clear hob hbb HBa HCa OX2 OD2 RA RB hp0''
                    go_wp2
                    exact ⟨⟨j3 + 1, by simp, by omega, HBb⟩, by simp only [intOf]; omega⟩
                  · have hd3 : decide ((j3 : Int) < 3) = false := decide_eq_false (by omega)
                    go_wp2
                    exact ⟨⟨j2 + 1, by simp, by omega, ⟨below_then k2_.out k2_.out.size HBn.out⟩⟩, by simp only [intOf]; omega⟩
              · have hd2 : decide ((j2 : Int) < 5) = false := decide_eq_false (by omega)
                go_wp2
                exact ⟨⟨j + 1, by simp, by omega, ⟨below_then HBp.out HBp.out.size HBm.out⟩⟩, by simp only [intOf]; omega⟩
          · have hd1 : decide ((0 : Int) < (M.length : Int)) = false := decide_eq_false (by omega)
            have hd2 := eq_false hz0
            go_wp2_with (first | ((with_reducible refine gate_builtin (b := .append) (xs := #[.const (.slice none 0 0), .tmp 101]) rfl ?_); at_builtin; refine Kd.R_append_rows (Kd.int .u8) (w0 := w6) w6.heap.size rfl (.const (.slice none 0 0)) (.tmp 101) 22 5 (.int .u8 0) 1 rfl Try.underlying22 info5 rfl (by decide) (by omega) (.slice none 0 0) ([] : List Int) M _ _ _ (fun _ => True) (fun _ => False) rfl rfl ?aO ?aR (fun _ _ h => h) (fun _ h => h.elim) ?aF ?aB ?aS ?aL ?_; (case aR => exact HM6.out.2); (case aB => exact Below.refl _ _); (case aF => exact (fun _ _ => trivial)); (case aO => exact (Kd.R_nil _ _ _ _ _)); (case aS => exact Nat.le_refl _); (case aL => have := HML.out.1; simp only [List.length_nil]; omega); intro v7 w8 ho hb hg hat; rw [List.nil_append] at ho; have HZ := Aside0.mk ho; have HB7 := Aside0.mk hb; clear ho hb hg hat; obtain ⟨Az, cz, ez, hAz⟩ := head_ HZ.out; subst ez))
            have HB8 := HB7
            obtain ⟨Z, hZ⟩ : ∃ Z : List Int, Z = M := ⟨_, rfl⟩
            have HZZ : Aside0 (okT w8 (Az, cz, Z)) := ⟨by
              have h_ := Kd.R_reads' HZ.out
              rw [hZ]
              exact ⟨h_.2.2, h_.2.1, Nat.le_trans HML.out.1 (by decide), HML.out.2⟩⟩
            have HZL : Aside0 (Z.length = M.length) := ⟨by rw [hZ]⟩
            clear hZ HZ HB7 hAz
            have n0_ := Aside0.mk (HOX.out.below HB8.out)
            have n1_ := Aside0.mk (HOY.out.below HB8.out)
            have n2_ := Aside0.mk (below_then HBp.out HBp.out.size HB8.out)
            have n3_ := Aside0.mk (cell_below_ HP0.out HB8.out)
            have n4_ := Aside0.mk (cell_below_ HP1.out HB8.out)
            have n5_ : Aside0 (okT w8 (A8, c8, M)) := ⟨Kd.C_below HM6.out.2 HB8.out, HM6.out.1, Nat.le_trans HML.out.1 (by decide), HML.out.2⟩
            have HDD : Aside0 (okT w8 (A3, c3, l3)) := ⟨((HL3.out.below HBp.out).below HB8.out).1, HL3.out.2.1, by have := HL3.out.2.2.1; simp only at this ⊢; omega, HL3.out.2.2.2⟩
            clear HOX HOY HBp HP0 HP1 HM5 HM6 hcv1 hcv2 hsn hd1 hd2 HB8
            have HOX := n0_
            have HOY := n1_
            have HBp := n2_
            have HP0 := n3_
            have HP1 := n4_
            have HYY := n5_
            clear n0_ n1_ n2_ n3_ n4_ n5_
            obtain ⟨q2, hr2, hr2l⟩ : ∃ q2 : Nat, Int.tmod (wrap64 a5) (wrap64 ((M.length : Int) + 1)) = (q2 : Int) ∧ q2 ≤ M.length := by
              have h5 := H5.out
              have hm := HML.out.1
              have e1 : wrap64 a5 = a5 := Zig.w64_id _ (by omega) (by omega)
              have e0 : wrap64 ((M.length : Int) + 1) = ((M.length + 1 : Nat) : Int) := by rw [Zig.w64_id _ (by omega) (by omega)]; omega
              have e2 : Int.tmod a5 ((M.length + 1 : Nat) : Int) = a5 % ((M.length + 1 : Nat) : Int) := Int.tmod_eq_emod_of_nonneg h5.1
              have e3 := Int.emod_nonneg a5 (b := ((M.length + 1 : Nat) : Int)) (by omega)
              have e4 := Int.emod_lt_of_pos a5 (b := ((M.length + 1 : Nat) : Int)) (by omega)
              rw [e1, e0, e2]
              clear e1 e0 e2
              exact ⟨(a5 % ((M.length + 1 : Nat) : Int)).toNat, by omega, by omega⟩
            have hwn : ¬ (wrap64 ((M.length : Int) + 1) = 0) := by
              have hm := HML.out.1
              rw [Zig.w64_id _ (by omega) (by omega)]; omega
            have hwb : (wrap64 ((M.length : Int) + 1) == 0) = false := beq_eq_false_iff_ne.mpr hwn
            have htl : (M.take q2).length = q2 := by rw [List.length_take]; omega
            obtain ⟨htk, htr, _⟩ := print_take_of (P := Try.prog) (Value.int .u8) (0 : Int) 22 5 .i64 Try.underlying22 (info_parts info5).choose_spec.1 (info_parts info5).choose_spec.2.2.1 A8 c8 M (q2 : Int) (Int.natCast_nonneg q2) (by omega) HYY.out.2.1
            simp only [Int.toNat_natCast] at htk htr
            have HTK : Aside0 (okT w8 (A8, c8, M.take q2)) := ⟨Kd.C_of_reads (h1 := fun _ => rfl) (htr w8 (Kd.reads_of_C (h1 := fun _ => rfl) HYY.out.1)), by have := HYY.out.2.1; simp only at this ⊢; omega, by have := HML.out.1; simp only; omega, fun x hx => HML.out.2 x (List.mem_of_mem_take hx)⟩
            clear htr
            go_wp2_with fail
            have n0_ := Aside0.mk (And.intro (HOX.out.below (Below.refl _ _).drew) (And.intro (HOY.out.below (Below.refl _ _).drew) (And.intro HBp.out.drew (And.intro (show w8.drew.cell? ⟨gp, 0, none⟩ = some (.slice Ax xx.length cx) from HP0.out) (And.intro (show w8.drew.cell? ⟨gp, 1, none⟩ = some (.slice Ay yy.length cy) from HP1.out) (And.intro (HYY.out.below (Below.refl _ _).drew) (And.intro (HZZ.out.below (Below.refl _ _).drew) (And.intro (HDD.out.below (Below.refl _ _).drew) (HTK.out.below (Below.refl _ _).drew)))))))))
            have HS8 := n0_
            have m0_ := Aside0.mk n0_.out.1
            have m1_ := Aside0.mk n0_.out.2.1
            have m2_ := Aside0.mk n0_.out.2.2.1
            have m3_ := Aside0.mk n0_.out.2.2.2.1
            have m4_ := Aside0.mk n0_.out.2.2.2.2.1
            have m5_ := Aside0.mk n0_.out.2.2.2.2.2.1
            have m6_ := Aside0.mk n0_.out.2.2.2.2.2.2.1
            have m7_ := Aside0.mk n0_.out.2.2.2.2.2.2.2.1
            have m8_ := Aside0.mk n0_.out.2.2.2.2.2.2.2.2
            clear HOX HOY HBp HP0 HP1 HYY HZZ HDD HTK n0_
            have HOX := m0_
            have HOY := m1_
            have HBp := m2_
            have HP0 := m3_
            have HP1 := m4_
            have HYY := m5_
            have HZZ := m6_
            have HDD := m7_
            have HTK := m8_
            clear m0_ m1_ m2_ m3_ m4_ m5_ m6_ m7_ m8_
            refine start_ (n := 18) (S := fun w' => True) (ds := []) #[false, false, false, false, false, false, false, false, false, false, false, false, false, false, false, false, false, false] (by kernel_rfl) rfl rfl trivial (fun hHeld => ?_); refine with_tabW repriselaw5_DeltaTells.tab19 repriselaw5_DeltaTells.bits19 (fun HT_ HW_ => ?_)
            generalize World.drew _ = w8 at *
            refine pure_ (i := 0) (N := some 119) (v := ?_) (a' := ?_) #[true, false, false, false, false, false, false, false, false, false, false, false, false, false, false, false, false, false] rfl rfl (any_of HT_.out (by kernel_rfl)) (fun _ _ _ h => h) (Or.inl ⟨by rfl, ?_⟩) ?_ ?_
            rotate_left
            · intro w'
              go_simp
              with_reducible rfl
            rotate_left
            · simp only [Act.put, List.setIfInBounds_toArray, List.set_cons_zero, List.set_cons_succ, i64_w, i32_w]
              rfl
            refine pure_ (i := 1) (N := some 120) (v := ?_) (a' := ?_) #[true, true, false, false, false, false, false, false, false, false, false, false, false, false, false, false, false, false] rfl rfl (any_of HT_.out (by kernel_rfl)) (fun _ _ _ h => h) (Or.inl ⟨by rfl, ?_⟩) ?_ ?_
            rotate_left
            · intro w'
              go_simp
              with_reducible rfl
            rotate_left
            · simp only [Act.put, List.setIfInBounds_toArray, List.set_cons_zero, List.set_cons_succ, i64_w, i32_w]
              rfl
            refine pure_ (i := 2) (N := some 121) (v := ?_) (a' := ?_) #[true, true, true, false, false, false, false, false, false, false, false, false, false, false, false, false, false, false] rfl rfl (any_of HT_.out (by kernel_rfl)) (fun _ _ _ h => h) (Or.inl ⟨by rfl, ?_⟩) ?_ ?_
            rotate_left
            · intro w'
              go_simp
              with_reducible rfl
            rotate_left
            · simp only [Act.put, List.setIfInBounds_toArray, List.set_cons_zero, List.set_cons_succ, i64_w, i32_w]
              rfl
            refine pure_ (i := 3) (N := some 122) (v := ?_) (a' := ?_) #[true, true, true, true, false, false, false, false, false, false, false, false, false, false, false, false, false, false] rfl rfl (any_of HT_.out (by kernel_rfl)) (fun _ _ _ h => h) (Or.inl ⟨by rfl, ?_⟩) ?_ ?_
            rotate_left
            · intro w'
              go_simp
              with_reducible rfl
            rotate_left
            · simp only [Act.put, List.setIfInBounds_toArray, List.set_cons_zero, List.set_cons_succ, i64_w, i32_w]
              rfl
            refine pure_ (i := 4) (N := some 123) (v := ?_) (a' := ?_) #[true, true, true, true, true, false, false, false, false, false, false, false, false, false, false, false, false, false] rfl rfl (any_of HT_.out (by kernel_rfl)) (fun _ _ _ h => h) (Or.inl ⟨by rfl, ?_⟩) ?_ ?_
            rotate_left
            · intro w'
              go_simp
              with_reducible rfl
            rotate_left
            · simp only [Act.put, List.setIfInBounds_toArray, List.set_cons_zero, List.set_cons_succ, i64_w, i32_w]
              rfl
            refine pure_ (i := 5) (N := some 124) (v := ?_) (a' := ?_) #[true, true, true, true, true, true, false, false, false, false, false, false, false, false, false, false, false, false] rfl rfl (any_of HT_.out (by kernel_rfl)) (fun _ _ _ h => h) (Or.inl ⟨by rfl, ?_⟩) ?_ ?_
            rotate_left
            · intro w'
              go_simp
              with_reducible rfl
            rotate_left
            · simp only [Act.put, List.setIfInBounds_toArray, List.set_cons_zero, List.set_cons_succ, i64_w, i32_w]
              rfl
            refine pure_ (i := 6) (N := some 125) (v := ?_) (a' := ?_) #[true, true, true, true, true, true, true, false, false, false, false, false, false, false, false, false, false, false] rfl rfl (any_of HT_.out (by kernel_rfl)) (fun _ _ _ h => h) (Or.inl ⟨by rfl, ?_⟩) ?_ ?_
            rotate_left
            · intro w'
              go_simp
              with_reducible rfl
            rotate_left
            · simp only [Act.put, List.setIfInBounds_toArray, List.set_cons_zero, List.set_cons_succ, i64_w, i32_w]
              rfl
            refine pure_ (i := 7) (N := some 126) (v := ?_) (a' := ?_) #[true, true, true, true, true, true, true, true, false, false, false, false, false, false, false, false, false, false] rfl rfl (any_of HT_.out (by kernel_rfl)) (fun _ _ _ h => h) (Or.inl ⟨by rfl, ?_⟩) ?_ ?_
            rotate_left
            · intro w'
              go_simp
              with_reducible rfl
            rotate_left
            · simp only [Act.put, List.setIfInBounds_toArray, List.set_cons_zero, List.set_cons_succ, i64_w, i32_w]
              rfl
            refine pure_ (i := 8) (N := some 127) (v := ?_) (a' := ?_) #[true, true, true, true, true, true, true, true, true, false, false, false, false, false, false, false, false, false] rfl rfl (any_of HT_.out (by kernel_rfl)) (fun _ _ _ h => h) (Or.inl ⟨by rfl, ?_⟩) ?_ ?_
            rotate_left
            · intro w'
              go_simp
              with_reducible rfl
            rotate_left
            · simp only [Act.put, List.setIfInBounds_toArray, List.set_cons_zero, List.set_cons_succ, i64_w, i32_w]
              rfl
            refine pure_ (i := 9) (N := some 128) (v := ?_) (a' := ?_) #[true, true, true, true, true, true, true, true, true, true, false, false, false, false, false, false, false, false] rfl rfl (any_of HT_.out (by kernel_rfl)) (fun _ _ _ h => h) (Or.inl ⟨by rfl, ?_⟩) ?_ ?_
            rotate_left
            · intro w'
              go_simp
              with_reducible rfl
            rotate_left
            · simp only [Act.put, List.setIfInBounds_toArray, List.set_cons_zero, List.set_cons_succ, i64_w, i32_w]
              rfl
            refine pure_ (i := 10) (N := some 129) (v := ?_) (a' := ?_) #[true, true, true, true, true, true, true, true, true, true, true, false, false, false, false, false, false, false] rfl rfl (any_of HT_.out (by kernel_rfl)) (fun _ _ _ h => h) (Or.inl ⟨by rfl, ?_⟩) ?_ ?_
            rotate_left
            · intro w'
              go_simp
              with_reducible rfl
            rotate_left
            · simp only [Act.put, List.setIfInBounds_toArray, List.set_cons_zero, List.set_cons_succ, i64_w, i32_w]
              rfl
            refine pure_ (i := 11) (N := some 130) (v := ?_) (a' := ?_) #[true, true, true, true, true, true, true, true, true, true, true, true, false, false, false, false, false, false] rfl rfl (any_of HT_.out (by kernel_rfl)) (fun _ _ _ h => h) (Or.inl ⟨by rfl, ?_⟩) ?_ ?_
            rotate_left
            · intro w'
              go_simp
              with_reducible rfl
            rotate_left
            · simp only [Act.put, List.setIfInBounds_toArray, List.set_cons_zero, List.set_cons_succ, i64_w, i32_w]
              rfl
            refine pure_ (i := 13) (N := some 132) (v := ?_) (a' := ?_) #[true, true, true, true, true, true, true, true, true, true, true, true, false, true, false, false, false, false] rfl rfl (any_of HT_.out (by kernel_rfl)) (fun _ _ _ h => h) (Or.inl ⟨by rfl, ?_⟩) ?_ ?_
            rotate_left
            · intro w'
              go_simp
              with_reducible rfl
            rotate_left
            · simp only [Act.put, List.setIfInBounds_toArray, List.set_cons_zero, List.set_cons_succ, i64_w, i32_w]
              rfl
            refine pure_ (i := 17) (N := some 136) (v := ?_) (a' := ?_) #[true, true, true, true, true, true, true, true, true, true, true, true, false, true, false, false, false, true] rfl rfl (any_of HT_.out (by kernel_rfl)) (fun _ _ _ h => h) (Or.inl ⟨by rfl, ?_⟩) ?_ ?_
            rotate_left
            · intro w'
              go_simp
              with_reducible rfl
            rotate_left
            · simp only [Act.put, List.setIfInBounds_toArray, List.set_cons_zero, List.set_cons_succ, i64_w, i32_w]
              rfl
            refine one_ (i := 12) (N := some 131) #[true, true, true, true, true, true, true, true, true, true, true, true, true, true, false, false, false, true] rfl rfl (one_of HT_.out (by kernel_rfl)) (by decide) (fun K hK => ?_)
            refine Kd.R_append_rows_step (Kd.int .u8) (w0 := w8) w8.heap.size (by rfl) (.const (.slice none 0 0)) (.tmp 130) 22 5 (.int .u8 0) 1 rfl Try.underlying22 info5 rfl (by decide) (by omega) (.slice none 0 0) ([] : List Int) M _ _ _ (fun _ => True) (fun _ => False) rfl rfl ?aO ?aR (fun _ _ h => h) (fun _ h => h.elim) ?aF ?aB ?aS ?aL ?_
            (case aR => exact HYY.out.1)
            (case aB => exact Below.refl _ _)
            (case aF => exact (fun _ _ => trivial))
            (case aO => exact (Kd.R_nil _ _ _ _ _))
            (case aS => exact Nat.le_refl _)
            (case aL => have := HML.out.1; have := HG.out; (try simp only [List.length_nil]); omega)
            intro v12 w9 ho hb hg hat
            rw [List.nil_append] at ho
            have HBa := Aside0.mk hb
            have HRa := Aside0.mk ho
            clear ho hg hat
            have n0_ := Aside0.mk (HOX.out.below hb)
            have n1_ := Aside0.mk (HOY.out.below hb)
            have n2_ := Aside0.mk (below_then HBp.out HBp.out.size hb)
            have n3_ := Aside0.mk (cell_below_ HP0.out hb)
            have n4_ := Aside0.mk (cell_below_ HP1.out hb)
            have n5_ := Aside0.mk (HYY.out.below hb)
            have n6_ := Aside0.mk (HZZ.out.below hb)
            have n7_ := Aside0.mk (HDD.out.below hb)
            have n8_ := Aside0.mk (HTK.out.below hb)
            clear HOX HOY HBp HP0 HP1 HYY HZZ HDD HTK
            have HOX := n0_
            have HOY := n1_
            have HBp := n2_
            have HP0 := n3_
            have HP1 := n4_
            have HYY := n5_
            have HZZ := n6_
            have HDD := n7_
            have HTK := n8_
            clear n0_ n1_ n2_ n3_ n4_ n5_ n6_ n7_ n8_
            clear hb
            refine hK.out _ _ trivial (fun hHeld => ?_)
            clear hK K
            refine norm_ (a' := ?_) ?_ ?_
            rotate_left
            · show Act.put _ (some 131) _ = _
              simp only [Act.put, List.setIfInBounds_toArray, List.set_cons_zero, List.set_cons_succ, i64_w, i32_w]
              rfl
            refine one_ (i := 14) (N := some 133) #[true, true, true, true, true, true, true, true, true, true, true, true, true, true, true, false, false, true] rfl rfl (one_of HT_.out (by kernel_rfl)) (by decide) (fun K hK => ?_)
            refine Kd.R_append_rows_step (Kd.int .u8) (w0 := w8) w8.heap.size (by rfl) (.tmp 131) (.tmp 132) 22 5 (.int .u8 0) 1 rfl Try.underlying22 info5 rfl (by decide) (by omega) v12 M l3 _ _ _ (fun _ => True) (fun _ => False) rfl rfl ?aO ?aR (fun _ _ h => h) (fun _ h => h.elim) ?aF ?aB ?aS ?aL ?_
            (case aR => exact HDD.out.1)
            (case aB => exact HBa.out)
            (case aF => exact (fun _ _ => trivial))
            (case aO => exact HRa.out)
            (case aS => exact HBa.out.size)
            (case aL => have := HML.out.1; have := HG.out; (try simp only [List.length_nil]); omega)
            intro v14 w10 ho hb hg hat
            have HRb := Aside0.mk ho
            have hb2 : Below w8.heap.size w8 w10 := hb
            clear ho hg hat hb HRa
            have HB10 := Aside0.mk hb2
            clear hb2 HOX HOY HBp HP0 HP1 HYY HZZ HDD HTK
            have HOX := Aside0.mk (HS8.out.1.below HB10.out)
            have HOY := Aside0.mk (HS8.out.2.1.below HB10.out)
            have HBp := Aside0.mk (below_then HS8.out.2.2.1 HS8.out.2.2.1.size HB10.out)
            have HP0 := Aside0.mk (cell_below_ HS8.out.2.2.2.1 HB10.out)
            have HP1 := Aside0.mk (cell_below_ HS8.out.2.2.2.2.1 HB10.out)
            have HYY := Aside0.mk (HS8.out.2.2.2.2.2.1.below HB10.out)
            have HZZ := Aside0.mk (HS8.out.2.2.2.2.2.2.1.below HB10.out)
            have HDD := Aside0.mk (HS8.out.2.2.2.2.2.2.2.1.below HB10.out)
            have HTK := Aside0.mk (HS8.out.2.2.2.2.2.2.2.2.below HB10.out)
            obtain ⟨A14, c14, rfl⟩ := Kd.R_slice HRb.out
            refine hK.out _ _ trivial (fun hHeld => ?_)
            clear hK K
            refine norm_ (a' := ?_) ?_ ?_
            rotate_left
            · show Act.put _ (some 133) _ = _
              simp only [Act.put, List.setIfInBounds_toArray, List.set_cons_zero, List.set_cons_succ, i64_w, i32_w]
              rfl
            refine one_ (i := 15) (N := some 134) #[true, true, true, true, true, true, true, true, true, true, true, true, true, true, true, true, false, true] rfl rfl (one_of HT_.out (by kernel_rfl)) (by decide) (fun K hK => ?_)
            refine event_step (by rfl) (by go_simp; exact ⟨rfl, rfl⟩) ?_
            refine hK.out _ _ trivial (fun hHeld => ?_)
            clear hK K
            refine norm_ (a' := ?_) ?_ ?_
            rotate_left
            · show Act.put _ (some 134) _ = _
              simp only [Act.put, List.setIfInBounds_toArray, List.set_cons_zero, List.set_cons_succ, i64_w, i32_w]
              rfl
            refine pure_ (i := 16) (N := some 135) (v := ?_) (a' := ?_) #[true, true, true, true, true, true, true, true, true, true, true, true, true, true, true, true, true, true] rfl rfl (any_of HT_.out (by kernel_rfl)) (fun _ _ _ h => h) (Or.inl ⟨by rfl, ?_⟩) ?_ ?_
            rotate_left
            · intro w'
              go_simp
              with_reducible rfl
            rotate_left
            · simp only [Act.put, List.setIfInBounds_toArray, List.set_cons_zero, List.set_cons_succ, i64_w, i32_w]
              rfl
            refine done_ (done_of HT_.out (by kernel_rfl)) ?_
            have hr14 := Kd.R_reads' HRb.out
            have HAB : Aside0 (okT w10 (A14, c14, M ++ l3)) := ⟨hr14.2.2, hr14.2.1, by have := HML.out.1; have := HG.out; simp only [List.length_append]; omega, fun x hx => (List.mem_append.1 hx).elim (HML.out.2 x) (HL.out.2.2.2 x)⟩
            clear hr14 HRb HS8
            have hcells := cells_lit w10 [.slice A3 l3.length c3, .slice A8 M.length c8, .slice Az M.length cz, .slice A8 q2 c8, .slice A14 (M.length + l3.length) c14] 22
            have hal : Below w10.heap.size w10 (w10.alloc (.cells #[.slice A3 l3.length c3, .slice A8 M.length c8, .slice Az M.length cz, .slice A8 q2 c8, .slice A14 (M.length + l3.length) c14] 22)) := (Below.refl _ _).alloc (Nat.le_refl _) _
            have hcells' : ∀ j u, ([.slice A3 l3.length c3, .slice A8 M.length c8, .slice Az M.length cz, .slice A8 q2 c8, .slice A14 (M.length + l3.length) c14] : List Value)[j]? = some u → (w10.alloc (.cells #[.slice A3 l3.length c3, .slice A8 M.length c8, .slice Az M.length cz, .slice A8 q2 c8, .slice A14 (M.length + l3.length) c14] 22)).cell? ⟨w10.heap.size, j, none⟩ = some u := hcells
            clear hcells
            generalize w10.alloc (.cells #[.slice A3 l3.length c3, .slice A8 M.length c8, .slice Az M.length cz, .slice A8 q2 c8, .slice A14 (M.length + l3.length) c14] 22) = W2 at *
            have hps : ∃ L2 : List DeltaM.Sl, L2.length = 5 ∧ (∀ j (h : j < L2.length), W2.cell? ⟨w10.heap.size, j, none⟩ = some (.slice L2[j].1 L2[j].2.2.length L2[j].2.1)) ∧ ∀ p ∈ L2, okT W2 p := by
              refine ⟨[(A3, c3, l3), (A8, c8, M), (Az, cz, Z), (A8, c8, M.take q2), (A14, c14, M ++ l3)], rfl, fun j h => ?_, fun p hp => ?_⟩
              · have hz := HZL.out
                match j, h with
                | 0, _ => exact hcells' 0 _ rfl
                | 1, _ => exact hcells' 1 _ rfl
                | 2, _ => rw [hcells' 2 _ rfl]; simp only [List.getElem_cons_succ, List.getElem_cons_zero, hz]
                | 3, _ => rw [hcells' 3 _ rfl]; simp only [List.getElem_cons_succ, List.getElem_cons_zero, htl]
                | 4, _ => rw [hcells' 4 _ rfl]; simp only [List.getElem_cons_succ, List.getElem_cons_zero, List.length_append]
                | (j + 5), h => exact absurd h (by simp)
              · simp only [List.mem_cons, List.not_mem_nil, or_false] at hp
                rcases hp with rfl | rfl | rfl | rfl | rfl
                · exact HDD.out.below hal
                · exact HYY.out.below hal
                · exact HZZ.out.below hal
                · exact HTK.out.below hal
                · exact HAB.out.below hal
            obtain ⟨L2, hL5, hLc, hLo⟩ := hps
            have HLc2 := Aside0.mk hLc
            have HLo2 := Aside0.mk hLo
            have HLl2 := Aside0.mk hL5
            have m0_ := Aside0.mk (HOX.out.below hal)
            have m1_ := Aside0.mk (HOY.out.below hal)
            have m2_ := Aside0.mk (below_then HBp.out HBp.out.size hal)
            have m3_ := Aside0.mk (cell_below_ HP0.out hal)
            have m4_ := Aside0.mk (cell_below_ HP1.out hal)
            clear HOX HOY HBp HP0 HP1 HYY HZZ HDD HTK HAB hL5 hLc hLo hal hcells' HB10 HZL HML htk htl hr2 hwn hwb hr2l
            have HOX := m0_
            have HOY := m1_
            have HBp := m2_
            have HP0 := m3_
            have HP1 := m4_
            clear m0_ m1_ m2_ m3_ m4_
            generalize w10.heap.size = g2 at *
            try generalize (Int.tdiv a5 16 % 256 + 1) % 256 = y116
            try generalize (M ++ l3).length = n14
            go_wp2
            go_loopw [136] (fun v136 wl => ∃ j2 : Nat, v136 = .int .i64 j2 ∧ j2 ≤ 5 ∧ Aside0 (Below W2.heap.size W2 wl)) (fun i _ => 5 - (intOf i).toNat)
            case atStart => exact ⟨0, rfl, by omega, ⟨Below.refl _ _⟩⟩
            case round =>
              obtain ⟨j2, rfl, hj2, HBm⟩ := hrel
              by_cases hlt2 : j2 < 5
              · have hd : decide ((j2 : Int) < 5) = true := decide_eq_true (by omega)
                have hjL2 : j2 < L2.length := by rw [HLl2.out]; exact hlt2
                have hc2_ := cell_below_ (HLc2.out j2 hjL2) HBm.out
                have HD2 := Aside0.mk ((HLo2.out L2[j2] (List.getElem_mem hjL2)).below HBm.out)
                generalize L2[j2] = pd at *
                obtain ⟨Ad, cd, dd⟩ := pd
                dsimp only at hc2_
                have hp1_ := cell_below_ HP1.out HBm.out
                go_wp2_with fail
                have hcells := cells_lit wr [.int .i64 a4, .int .i64 yy.length, .int .i64 (wrap64 a5)] 3
                have hal : Below wr.heap.size wr (wr.alloc (.cells #[.int .i64 a4, .int .i64 yy.length, .int .i64 (wrap64 a5)] 3)) := (Below.refl _ _).alloc (Nat.le_refl _) _
                have hcells' : ∀ j u, ([.int .i64 a4, .int .i64 yy.length, .int .i64 (wrap64 a5)] : List Value)[j]? = some u → (wr.alloc (.cells #[.int .i64 a4, .int .i64 yy.length, .int .i64 (wrap64 a5)] 3)).cell? ⟨wr.heap.size, j, none⟩ = some u := hcells
                clear hcells
                generalize wr.alloc (.cells #[.int .i64 a4, .int .i64 yy.length, .int .i64 (wrap64 a5)] 3) = W3 at *
                have hms : ∀ j3, j3 < 3 → ∃ mm : Int, W3.cell? ⟨wr.heap.size, j3, none⟩ = some (.int .i64 mm) ∧ -9223372036854775808 ≤ mm ∧ mm < 9223372036854775808 := fun j3 h => by
                  match j3, h with
                  | 0, _ => exact ⟨_, hcells' 0 _ rfl, H4.out⟩
                  | 1, _ => exact ⟨_, hcells' 1 _ rfl, by have := HOY.out.2.2.1; simp only at this; omega⟩
                  | 2, _ => exact ⟨_, hcells' 2 _ rfl, by have := H5.out; rw [Zig.w64_id a5 (by omega) (by omega)]; omega⟩
                  | (j + 3), h => exact absurd h (by omega)
                have HMS := Aside0.mk hms
                have k0_ := Aside0.mk ((HOX.out.below HBm.out).below hal)
                have k1_ := Aside0.mk (HD2.out.below hal)
                have k2_ := Aside0.mk (below_then HBm.out HBm.out.size hal)
                have k3_ := Aside0.mk (cell_below_ (cell_below_ HP0.out HBm.out) hal)
                clear hms hal hcells' hc2_ hp1_
                have hgen : ∃ g3 : Nat, g3 = wr.heap.size := ⟨_, rfl⟩
                generalize wr.heap.size = g3 at *
                go_loopw [148] (fun v148 wl => ∃ j3 : Nat, v148 = .int .i64 j3 ∧ j3 ≤ 3 ∧ Aside0 (Below W3.heap.size W3 wl)) (fun i _ => 3 - (intOf i).toNat)
                case atStart => exact ⟨0, rfl, by omega, ⟨Below.refl _ _⟩⟩
                case round =>
                  obtain ⟨j3, rfl, hj3, HBn⟩ := hrel
                  by_cases hlt3 : j3 < 3
                  · have hd3 : decide ((j3 : Int) < 3) = true := decide_eq_true (by omega)
                    obtain ⟨mm, hmc, hm1, hm2⟩ := HMS.out j3 hlt3
                    have hmc' := cell_below_ hmc HBn.out
                    have hp0' := cell_below_ k3_.out HBn.out
                    have ox := k0_.out.below HBn.out
                    have od := k1_.out.below HBn.out
                    obtain ⟨r, ra, rb⟩ := apply_f xx dd mm (by have := ox.2.2.1; simp only at this; omega) hm1 hm2 od.2.2.1 od.2.2.2
                    obtain ⟨rl, re⟩ := r
                    have OX := Aside0.mk ox
                    have OD := Aside0.mk od
                    have RA := Aside0.mk ra
                    have RB := Aside0.mk rb
                    have HM := Aside0.mk hm1
                    clear hmc ox od ra rb hm1 hm2
                    go_wp2_with fail
                    refine (delta_Apply.calls 300000 Ax cx xx (fun _ => True) Ad cd dd mm rl re _ OX.out.1 OX.out.2.1 (V_of OD.out.2.1 OD.out.1) RA.out).mono ?_
                    rintro e wa ⟨va, rfl, hoa, hba⟩
                    obtain ⟨Aa, ca, rfl⟩ := Kd.R_slice hoa
                    have HCa := Aside0.mk (Kd.R_reads' hoa).2.2
                    have hp0'' := cell_below_ hp0' hba
                    have OX2 := Aside0.mk (OX.out.below hba)
                    have OD2 := Aside0.mk (OD.out.below hba)
                    have HBa := Aside0.mk (below_then HBn.out HBn.out.size hba)
                    clear hoa hba hp0' hmc' OX OD
                    go_wp2_with fail
                    refine (repriseref5_Apply.calls 300000 Ax cx xx (fun _ => True) Ad cd dd mm rl re _ OX2.out.1 OX2.out.2.1 (V_of OD2.out.2.1 OD2.out.1) RB.out).mono ?_
                    rintro e wb ⟨vb, rfl, hob, hbb⟩
                    obtain ⟨Ab, cb, rfl⟩ := Kd.R_slice hob
                    have hcva : (convert 22 9 (.slice Aa rl.length ca)).run Try.prog wb = .ok (.string (strOfNums rl)) wb := Kd.C_string (P := Try.prog) (c := ca) Try.underlying22 Try.underlying5 Try.underlying9 (Kd.C_below HCa.out hbb)
                    have hcvb : (convert 22 9 (.slice Ab rl.length cb)).run Try.prog wb = .ok (.string (strOfNums rl)) wb := Kd.C_string (P := Try.prog) (c := cb) Try.underlying22 Try.underlying5 Try.underlying9 (Kd.R_reads' hob).2.2
                    have hsn : ((strOfNums rl).toList != (strOfNums rl).toList) = false := by simp
                    have hen : (re != re) = false := by simp
                    have HBb := Aside0.mk (below_then HBa.out HBa.out.size hbb)
                    clear hob hbb HBa HCa OX2 OD2 RA RB hp0''
                    go_wp2
                    exact ⟨⟨j3 + 1, by simp, by omega, HBb⟩, by simp only [intOf]; omega⟩
                  · have hd3 : decide ((j3 : Int) < 3) = false := decide_eq_false (by omega)
                    go_wp2
                    exact ⟨⟨j2 + 1, by simp, by omega, ⟨below_then k2_.out k2_.out.size HBn.out⟩⟩, by simp only [intOf]; omega⟩
              · have hd2 : decide ((j2 : Int) < 5) = false := decide_eq_false (by omega)
                go_wp2
                exact ⟨⟨j + 1, by simp, by omega, ⟨below_then HBp.out HBp.out.size HBm.out⟩⟩, by simp only [intOf]; omega⟩
        · have hd : decide ((j : Int) < 5) = false := decide_eq_false (by omega)
          go_wp2
          go_ret
          exact ⟨rfl, below_step HBW.out HBl.out⟩
def repriselaw5_DeltaTells.f (l0 l1 l2 l3 : List Int) (a4 a5 : Int) : Option Bool := if (∀ x ∈ l0, 0 ≤ x ∧ x < 256) ∧ (∀ x ∈ l1, 0 ≤ x ∧ x < 256) ∧ (∀ x ∈ l2, 0 ≤ x ∧ x < 65536) ∧ (∀ x ∈ l3, 0 ≤ x ∧ x < 256) ∧ (-9223372036854775808 ≤ a4 ∧ a4 < 9223372036854775808) ∧ (0 ≤ a5 ∧ a5 < 256) then some true else none
theorem repriselaw5_DeltaTells.calls (A0 : Option Addr) (c0 : Nat) (l0 : List Int) (A1 : Option Addr) (c1 : Nat) (l1 : List Int) (A2 : Option Addr) (c2 : Nat) (l2 : List Int) (A3 : Option Addr) (c3 : Nat) (l3 : List Int) (a4 a5 : Int) (r : Bool) (w : World)
    (hr0 : Kd.C (Kd.int .u8) w A0 l0.length l0) (hc0 : l0.length ≤ c0) (hr1 : Kd.C (Kd.int .u8) w A1 l1.length l1) (hc1 : l1.length ≤ c1) (hr2 : Kd.C (Kd.int .u16) w A2 l2.length l2) (hc2 : l2.length ≤ c2) (hr3 : Kd.C (Kd.int .u8) w A3 l3.length l3) (hc3 : l3.length ≤ c3) (h : repriselaw5_DeltaTells.f l0 l1 l2 l3 a4 a5 = some r) :
    Calls Try.prog 7 #[.slice A0 l0.length c0, .slice A1 l1.length c1, .slice A2 l2.length c2, .slice A3 l3.length c3, .int .i64 a4, .int .u8 a5] w fun e w' => e = .returned (.bool r) ∧ Below w.heap.size w w' := by
  unfold repriselaw5_DeltaTells.f at h
  split at h
  case isFalse => cases h
  rename_i hb
  obtain rfl := Option.some.inj h
  exact tells_calls A0 c0 l0 A1 c1 l1 A2 c2 l2 A3 c3 l3 a4 a5 w hr0 hc0 hr1 hc1 hr2 hc2 hr3 hc3 hb.1 hb.2.1 hb.2.2.1 hb.2.2.2.1 hb.2.2.2.2.1 hb.2.2.2.2.2

/-- THE ONE PURE STATEMENT of repriselaw5_DeltaTells. -/
def repriselaw5_DeltaTells.Pure : Prop := ∀ (l0 : List Int) (l1 : List Int) (l2 : List Int) (l3 : List Int) (a4 : Int) (a5 : Int), l0.length ≤ maxLen → l0.length * 1 ≤ 140737488351232 → (∀ x ∈ l0, (Lit.int .u8 x).wf = true) → l1.length ≤ maxLen → l1.length * 1 ≤ 140737488351232 → (∀ x ∈ l1, (Lit.int .u8 x).wf = true) → l2.length ≤ maxLen → l2.length * 2 ≤ 140737488351232 → (∀ x ∈ l2, (Lit.int .u16 x).wf = true) → l3.length ≤ maxLen → l3.length * 1 ≤ 140737488351232 → (∀ x ∈ l3, (Lit.int .u8 x).wf = true) → (Lit.int .i64 a4).wf = true → (Lit.int .u8 a5).wf = true → repriselaw5_DeltaTells.f l0 l1 l2 l3 a4 a5 = some true
theorem repriselaw5_DeltaTells.walk (P : repriselaw5_DeltaTells.Pure) (a0 : Option Addr) (len0 cap0 : Nat) (z0 : List Int) (a1 : Option Addr) (len1 cap1 : Nat) (z1 : List Int) (a2 : Option Addr) (len2 cap2 : Nat) (z2 : List Int) (a3 : Option Addr) (len3 cap3 : Nat) (z3 : List Int) (a4 : Int) (a5 : Int) (w : World) (w0 : (a0 = none ∧ len0 = 0 ∧ cap0 = 0 ∧ z0 = []) ∨ ∃ x, a0 = some x ∧ len0 ≤ cap0 ∧ cap0 ≤ maxLen ∧ z0.length = cap0 ∧ (∀ i, i < z0.length → w.cell? (x.add i) = some (.int .u8 (z0.getD i 0))) ∧ ∀ n ∈ z0, (Lit.int .u8 n).wf = true) (y0 : len0 * 1 ≤ 140737488351232) (w1 : (a1 = none ∧ len1 = 0 ∧ cap1 = 0 ∧ z1 = []) ∨ ∃ x, a1 = some x ∧ len1 ≤ cap1 ∧ cap1 ≤ maxLen ∧ z1.length = cap1 ∧ (∀ i, i < z1.length → w.cell? (x.add i) = some (.int .u8 (z1.getD i 0))) ∧ ∀ n ∈ z1, (Lit.int .u8 n).wf = true) (y1 : len1 * 1 ≤ 140737488351232) (w2 : (a2 = none ∧ len2 = 0 ∧ cap2 = 0 ∧ z2 = []) ∨ ∃ x, a2 = some x ∧ len2 ≤ cap2 ∧ cap2 ≤ maxLen ∧ z2.length = cap2 ∧ (∀ i, i < z2.length → w.cell? (x.add i) = some (.int .u16 (z2.getD i 0))) ∧ ∀ n ∈ z2, (Lit.int .u16 n).wf = true) (y2 : len2 * 2 ≤ 140737488351232) (w3 : (a3 = none ∧ len3 = 0 ∧ cap3 = 0 ∧ z3 = []) ∨ ∃ x, a3 = some x ∧ len3 ≤ cap3 ∧ cap3 ≤ maxLen ∧ z3.length = cap3 ∧ (∀ i, i < z3.length → w.cell? (x.add i) = some (.int .u8 (z3.getD i 0))) ∧ ∀ n ∈ z3, (Lit.int .u8 n).wf = true) (y3 : len3 * 1 ≤ 140737488351232) (w4 : (Lit.int .i64 a4).wf = true) (w5 : (Lit.int .u8 a5).wf = true) :
    Calls Try.prog 7 #[.slice a0 len0 cap0, .slice a1 len1 cap1, .slice a2 len2 cap2, .slice a3 len3 cap3, .int .i64 a4, .int .u8 a5] w fun e w' => e = .returned (.bool true) ∧ Below w.heap.size w w' := by
  obtain ⟨l0, rfl, hr0, hm0, hw0, hc0⟩ := ReadsInt.ofRowC w0
  obtain ⟨l1, rfl, hr1, hm1, hw1, hc1⟩ := ReadsInt.ofRowC w1
  obtain ⟨l2, rfl, hr2, hm2, hw2, hc2⟩ := ReadsInt.ofRowC w2
  obtain ⟨l3, rfl, hr3, hm3, hw3, hc3⟩ := ReadsInt.ofRowC w3
  have h := P l0 l1 l2 l3 a4 a5 hm0 y0 hw0 hm1 y1 hw1 hm2 y2 hw2 hm3 y3 hw3 w4 w5
  refine (repriselaw5_DeltaTells.calls _ _ l0 _ _ l1 _ _ l2 _ _ l3 a4 a5 true w (Kd.C_of_reads (d := (0 : Int)) (h1 := fun _ => rfl) hr0) hc0 (Kd.C_of_reads (d := (0 : Int)) (h1 := fun _ => rfl) hr1) hc1 (Kd.C_of_reads (d := (0 : Int)) (h1 := fun _ => rfl) hr2) hc2 (Kd.C_of_reads (d := (0 : Int)) (h1 := fun _ => rfl) hr3) hc3 h).mono ?_
  rintro e w' ⟨rfl, hd⟩
  exact ⟨rfl, hd⟩

end Go.Proofs.Ytmaefdeigienjaa.QDeltaTells
