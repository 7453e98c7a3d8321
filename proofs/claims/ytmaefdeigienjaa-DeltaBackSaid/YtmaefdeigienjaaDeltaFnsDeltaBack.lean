/- Package delta: what Apply comes to on parts: each part is what it tells, or there is no room for it. -/
import Derived.Test.YtmaefdeigienjaaLebFnsDeltaBack
import Derived.Test.YtmaefdeigienjaaDeltaParts
namespace Go.Proofs.Ytmaefdeigienjaa.QDeltaBack
open Go.RowKit Go.Proofs.YtmaefdeigienjaaW.PrintWords Go.Proofs.YtmaefdeigienjaaW.PrintLast Go.Proofs.YtmaefdeigienjaaW.PrintMore
theorem dread_even (k n : Nat) (r : List Int) (hk : 20 ≤ k) (h1 : 1 ≤ n) (h2 : n ≤ 1000000) (hb : ∀ x ∈ r, 0 ≤ x ∧ x < 256) :
    delta_read.f k (Leb.enc (2 * n) ++ r) = some ((n : Int), 0, false, ((Leb.enc (2 * n)).length : Int), 0) := by
  have hb2 : ∀ x ∈ Leb.enc (2 * n) ++ r, 0 ≤ x ∧ x < 256 := fun x hx => (List.mem_append.1 hx).elim (Leb.enc_byte _ x) (hb x)
  have ha : Go.bits .and .u64 ((2 * n : Nat) : Int) 1 = 0 := by rw [Zig.and_one_u64 _ (by omega) (by omega)]; omega
  have hd : ((2 * n : Nat) : Int) / 2 = (n : Int) := by omega
  unfold delta_read.f
  rw [read_f k _ hb2 hk, Leb.dec_enc _ _ (by omega), Option.bind_some]
  dsimp only
  rw [if_pos rfl, ha, if_neg (by decide), hd, if_neg (by omega)]
  rfl
theorem dread_odd (k n p : Nat) (r : List Int) (hk : 20 ≤ k) (h1 : 1 ≤ n) (h2 : n ≤ 1000000) (h3 : p ≤ 1000000) (hb : ∀ x ∈ r, 0 ≤ x ∧ x < 256) :
    delta_read.f k (Leb.enc (2 * n + 1) ++ (Leb.enc p ++ r)) = some ((n : Int), (p : Int), true, (((Leb.enc (2 * n + 1)).length + (Leb.enc p).length : Nat) : Int), 0) := by
  have hb1 : ∀ x ∈ Leb.enc p ++ r, 0 ≤ x ∧ x < 256 := fun x hx => (List.mem_append.1 hx).elim (Leb.enc_byte _ x) (hb x)
  have hb2 : ∀ x ∈ Leb.enc (2 * n + 1) ++ (Leb.enc p ++ r), 0 ≤ x ∧ x < 256 := fun x hx => (List.mem_append.1 hx).elim (Leb.enc_byte _ x) (hb1 x)
  have ha : Go.bits .and .u64 ((2 * n + 1 : Nat) : Int) 1 = 1 := by rw [Zig.and_one_u64 _ (by omega) (by omega)]; omega
  have hd : ((2 * n + 1 : Nat) : Int) / 2 = (n : Int) := by omega
  have e1 := Leb.enc_len10 (2 * n + 1) (by omega)
  have e2 := Leb.enc_len10 p (by omega)
  have hw : wrap64 (((Leb.enc (2 * n + 1)).length : Int) + ((Leb.enc p).length : Int)) = (((Leb.enc (2 * n + 1)).length + (Leb.enc p).length : Nat) : Int) := by rw [Zig.w64_id _ (by omega) (by omega)]; omega
  unfold delta_read.f
  rw [read_f k _ hb2 hk, Leb.dec_enc _ _ (by omega), Option.bind_some]
  dsimp only
  rw [if_pos rfl, ha, if_pos rfl, if_pos (by omega), if_pos (by simp only [List.length_append]; omega), Int.toNat_natCast, List.drop_left, read_f k _ hb1 hk, Leb.dec_enc _ _ (by omega), Option.bind_some]
  dsimp only
  rw [if_pos rfl, hd, if_neg (by omega), hw]
  rfl
theorem room_eq (most : Int) (o : List Int) (h1 : -9223372036854775808 ≤ most) (h2 : most < 9223372036854775808) (h : (o.length : Int) ≤ max most 0) (hl : o.length ≤ 140737488355328) : IntKind.u64.wrap (wrap64 ((mx most 0) - (o.length : Int))) = max most 0 - o.length := by
  have hm : mx most 0 = max most 0 := by unfold mx; split <;> omega
  rw [hm, Zig.w64_id _ (by omega) (by omega), Zig.u64w]
  omega
/-- a part for which there is room -/
theorem apply_part (k : Nat) (old : List Int) (p : DeltaM.Part) (r : List Int) (most : Int) (o : List Int) (hk : 20 ≤ k) (hp : DeltaM.pok old p) (hold : old.length ≤ 100000) (hlen : (DeltaM.pval old p).length ≤ 100000) (hr : ∀ x ∈ r, 0 ≤ x ∧ x < 256) (hrl : r.length ≤ 100000000)
    (h1 : -9223372036854775808 ≤ most) (h2 : most < 9223372036854775808) (hl : o.length ≤ 1000000000) (h : (o.length : Int) + (DeltaM.pval old p).length ≤ max most 0) :
    delta_Apply.l0 (k + 2) old (DeltaM.pbytes p ++ r) most o = delta_Apply.l0 k old r most (o ++ DeltaM.pval old p) := by
  have hroom := room_eq most o h1 h2 (by omega) (by omega)
  rcases p with xs | ⟨n, q⟩
  · obtain ⟨g1, g2⟩ := hp
    simp only [DeltaM.pval] at hlen h ⊢
    have e1 := Leb.enc_pos (2 * xs.length)
    have hbx : ∀ x ∈ xs ++ r, 0 ≤ x ∧ x < 256 := fun x hx => (List.mem_append.1 hx).elim (g2 x) (hr x)
    have hu : IntKind.u64.wrap (((xs ++ r).length : Nat) : Int) ≥ xs.length := by rw [Zig.u64w, List.length_append]; omega
    rw [show DeltaM.pbytes (.inl xs) ++ r = Leb.enc (2 * xs.length) ++ (xs ++ r) by simp [DeltaM.pbytes]]
    rw [delta_Apply.l0, if_pos (by simp only [List.length_append]; omega), dread_even (k + 1) xs.length (xs ++ r) (by omega) g1 (by omega) hbx, Option.bind_some]
    dsimp only
    rw [if_pos rfl, if_pos (by omega), if_pos (by simp only [List.length_append]; omega), Option.bind_some, Int.toNat_natCast, List.drop_left, hroom, if_neg (by omega), if_neg (by decide)]
    rw [delta_Apply.j1, if_neg (by decide), if_neg (by decide), if_neg (by omega), if_pos (by omega), if_pos (by simp only [List.length_append]; omega), Option.bind_some, Int.toNat_natCast, List.take_left, if_pos (by omega), List.drop_left]
  · obtain ⟨g1, g2⟩ := hp
    have hv : (DeltaM.pval old (.inr (n, q))).length = n := by simp only [DeltaM.pval, List.length_take, List.length_drop]; omega
    rw [hv] at hlen h
    have e1 := Leb.enc_pos (2 * n + 1)
    have hu : IntKind.u64.wrap ((old.length : Nat) : Int) = old.length := by rw [Zig.u64w]; omega
    have hu2 : IntKind.u64.wrap ((old.length : Int) - (q : Int)) = ((old.length - q : Nat) : Int) := by rw [Zig.u64w]; omega
    have hu3 : IntKind.u64.wrap ((q : Int) + (n : Int)) = ((q + n : Nat) : Int) := by rw [Zig.u64w]; omega
    have htd : (old.take (q + n)).drop q = (old.drop q).take n := by rw [List.drop_take]; congr 1; omega
    rw [show DeltaM.pbytes (.inr (n, q)) ++ r = Leb.enc (2 * n + 1) ++ (Leb.enc q ++ r) by simp [DeltaM.pbytes]]
    rw [delta_Apply.l0, if_pos (by simp only [List.length_append]; omega), dread_odd (k + 1) n q r (by omega) g1 (by omega) (by omega) hr, Option.bind_some]
    dsimp only
    rw [if_pos rfl, if_pos (by omega), if_pos (by simp only [List.length_append]; omega), Option.bind_some, Int.toNat_natCast]
    rw [show (Leb.enc (2 * n + 1) ++ (Leb.enc q ++ r)).drop ((Leb.enc (2 * n + 1)).length + (Leb.enc q).length) = r by rw [← List.drop_drop, List.drop_left, List.drop_left]]
    rw [hroom, if_neg (by omega), if_pos rfl, hu, if_neg (by omega), hu2, decide_eq_false (by omega)]
    rw [delta_Apply.j1, if_neg (by decide), if_pos rfl, if_pos (by omega), hu3, if_pos (by omega), if_pos (by omega), Int.toNat_natCast, Int.toNat_natCast, htd, if_pos (by have : ((old.drop q).take n).length = n := hv; omega)]
    rfl
/-- a part for which there is none -/
theorem apply_part_long (k : Nat) (old : List Int) (p : DeltaM.Part) (r : List Int) (most : Int) (o : List Int) (hk : 20 ≤ k) (hp : DeltaM.pok old p) (hold : old.length ≤ 100000) (hlen : (DeltaM.pval old p).length ≤ 100000) (hr : ∀ x ∈ r, 0 ≤ x ∧ x < 256)
    (h1 : -9223372036854775808 ≤ most) (h2 : most < 9223372036854775808) (hl : o.length ≤ 1000000000) (h0 : (o.length : Int) ≤ max most 0) (h : (o.length : Int) + (DeltaM.pval old p).length > max most 0) :
    delta_Apply.l0 (k + 2) old (DeltaM.pbytes p ++ r) most o = some ([], 25) := by
  have hroom := room_eq most o h1 h2 (by omega) (by omega)
  rcases p with xs | ⟨n, q⟩
  · obtain ⟨g1, g2⟩ := hp
    simp only [DeltaM.pval] at hlen h
    have e1 := Leb.enc_pos (2 * xs.length)
    have hbx : ∀ x ∈ xs ++ r, 0 ≤ x ∧ x < 256 := fun x hx => (List.mem_append.1 hx).elim (g2 x) (hr x)
    rw [show DeltaM.pbytes (.inl xs) ++ r = Leb.enc (2 * xs.length) ++ (xs ++ r) by simp [DeltaM.pbytes]]
    rw [delta_Apply.l0, if_pos (by simp only [List.length_append]; omega), dread_even (k + 1) xs.length (xs ++ r) (by omega) g1 (by omega) hbx, Option.bind_some]
    dsimp only
    rw [if_pos rfl, if_pos (by omega), if_pos (by simp only [List.length_append]; omega), Option.bind_some, hroom, if_pos (by omega)]
  · obtain ⟨g1, g2⟩ := hp
    have hv : (DeltaM.pval old (.inr (n, q))).length = n := by simp only [DeltaM.pval, List.length_take, List.length_drop]; omega
    rw [hv] at hlen h
    have e1 := Leb.enc_pos (2 * n + 1)
    rw [show DeltaM.pbytes (.inr (n, q)) ++ r = Leb.enc (2 * n + 1) ++ (Leb.enc q ++ r) by simp [DeltaM.pbytes]]
    rw [delta_Apply.l0, if_pos (by simp only [List.length_append]; omega), dread_odd (k + 1) n q r (by omega) g1 (by omega) (by omega) hr, Option.bind_some]
    dsimp only
    rw [if_pos rfl, if_pos (by omega), if_pos (by simp only [List.length_append]; omega), Option.bind_some, hroom, if_pos (by omega)]
/-- parts, one behind the other -/
theorem apply_parts (old : List Int) (hold : old.length ≤ 100000) (r : List Int) (hr : ∀ x ∈ r, 0 ≤ x ∧ x < 256) (hrl : r.length ≤ 10000000) (most : Int) (h1 : -9223372036854775808 ≤ most) (h2 : most < 9223372036854775808) (k : Nat) (hk : 20 ≤ k) (ps : List DeltaM.Part) : ∀ (o : List Int),
    (∀ p ∈ ps, DeltaM.pok old p) → (ps.flatMap (DeltaM.pval old)).length ≤ 100000 → o.length + (ps.flatMap (DeltaM.pval old)).length ≤ 100000000 → (o.length : Int) ≤ max most 0 →
    delta_Apply.l0 (k + 2 * ps.length) old (ps.flatMap DeltaM.pbytes ++ r) most o = if (o.length : Int) + (ps.flatMap (DeltaM.pval old)).length ≤ max most 0 then delta_Apply.l0 k old r most (o ++ ps.flatMap (DeltaM.pval old)) else some ([], 25) := by
  induction ps with
  | nil => intro o _ _ _ h; simp only [List.flatMap_nil, List.length_nil, List.nil_append, List.append_nil]; rw [if_pos (by omega)]; rfl
  | cons p ps ih =>
    intro o hp hlen ho hroom
    have hp1 := hp p (by simp)
    have hp2 : ∀ q ∈ ps, DeltaM.pok old q := fun q hq => hp q (by simp [hq])
    simp only [List.flatMap_cons, List.length_append] at hlen ho ⊢
    have hbr : ∀ x ∈ ps.flatMap DeltaM.pbytes ++ r, 0 ≤ x ∧ x < 256 := fun x hx => (List.mem_append.1 hx).elim (DeltaM.parts_byte old ps hp2 x) (hr x)
    have hbl := DeltaM.parts_blen old hold ps hp2 (by omega)
    rw [List.append_assoc, show k + 2 * (p :: ps).length = (k + 2 * ps.length) + 2 by simp only [List.length_cons]; omega]
    by_cases hfit : (o.length : Int) + (DeltaM.pval old p).length ≤ max most 0
    · rw [apply_part (k + 2 * ps.length) old p _ most o (by omega) hp1 hold (by omega) hbr (by rw [List.length_append]; omega) h1 h2 (by omega) hfit]
      rw [ih (o ++ DeltaM.pval old p) hp2 (by omega) (by rw [List.length_append]; omega) (by rw [List.length_append]; omega)]
      simp only [List.length_append, List.append_assoc]
      by_cases hall : (o.length : Int) + ((DeltaM.pval old p).length + (ps.flatMap (DeltaM.pval old)).length) ≤ max most 0
      · rw [if_pos (by omega), if_pos (by omega)]
      · rw [if_neg (by omega), if_neg (by omega)]
    · rw [apply_part_long (k + 2 * ps.length) old p _ most o (by omega) hp1 hold (by omega) hbr h1 h2 (by omega) hroom (by omega), if_neg (by omega)]
theorem apply_end (k : Nat) (old : List Int) (most : Int) (o : List Int) : delta_Apply.l0 (k + 1) old [] most o = some (o, 0) := by
  rw [delta_Apply.l0, if_neg (by simp)]
/-- Make, told again -/
theorem make_f (old new : List Int) (h0 : old.length ≤ 100000) (h1 : new.length ≤ 100000) (hb0 : ∀ x ∈ old, 0 ≤ x ∧ x < 256) (hb1 : ∀ x ∈ new, 0 ≤ x ∧ x < 256) : delta_Make.f old new = some (DeltaM.make old new) := by
  unfold delta_Make.f
  rw [if_pos ⟨h0, h1, hb0, hb1⟩]
end Go.Proofs.Ytmaefdeigienjaa.QDeltaBack
