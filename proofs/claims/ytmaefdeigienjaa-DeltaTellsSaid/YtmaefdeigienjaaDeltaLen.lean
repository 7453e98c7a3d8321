/- Package delta: how long what Make comes to is; plain laws, no program. -/
import Derived.Test.YtmaefdeigienjaaDeltaParts
namespace Go.Proofs.Ytmaefdeigienjaa.DeltaM
open Go Go.RowKit
theorem common_ge : ∀ (k : Nat) (x y : List Int), k ≤ x.length → k ≤ y.length → x.take k = y.take k → k ≤ common x y := by
  intro k
  induction k with
  | zero => intro x y _ _ _; omega
  | succ k ih =>
    intro x y hx hy h
    cases x with
    | nil => simp at hx
    | cons a x => cases y with
      | nil => simp at hy
      | cons b y =>
        simp only [List.take_succ_cons, List.cons.injEq] at h
        simp only [List.length_cons] at hx hy
        have := ih x y (by omega) (by omega) h.2
        simp only [common]
        rw [if_pos h.1]
        omega
theorem pos_mem2 {l : List Int} {m : Nat} {q : List Int} {z : Int} (h : z ∈ pos l m q) : ∃ i : Nat, z = i ∧ i < m ∧ q4 l i = q := by
  unfold pos at h
  obtain ⟨i, hi, rfl⟩ := List.mem_map.1 h
  have h1 := List.mem_filter.1 hi
  exact ⟨i, rfl, List.mem_range.1 h1.1, of_decide_eq_true h1.2⟩
theorem bestL_big (old new : List Int) (zs : List Int) (hz : ∀ z ∈ zs, 4 ≤ common (old.drop z.toNat) new) : ∀ n p : Int, n = 0 ∨ 4 ≤ n → (bestL old new zs n p).1 = 0 ∨ 4 ≤ (bestL old new zs n p).1 := by
  induction zs with
  | nil => intro n p h; exact h
  | cons z r ih =>
    intro n p h
    have hz' := hz z (by simp)
    have ih' := ih (fun x hx => hz x (by simp [hx]))
    simp only [bestL]
    split
    · exact h
    · split
      · exact ih' n p h
      · split
        · exact ih' _ z (Or.inr (by omega))
        · exact ih' n p h
theorem pos_common {old new : List Int} {z : Int} (h4 : 4 ≤ new.length) (h : z ∈ pos old (old.length - 3) (new.take 4)) : 4 ≤ common (old.drop z.toNat) new := by
  obtain ⟨i, rfl, hi, hq⟩ := pos_mem2 h
  rw [Int.toNat_natCast]
  exact common_ge 4 _ _ (by rw [List.length_drop]; omega) h4 hq
theorem best_big (old new : List Int) : (best old new).1 = 0 ∨ 4 ≤ (best old new).1 := by
  unfold best
  split
  · left; rfl
  · exact bestL_big old new _ (fun z hz => pos_common (by omega) hz) 0 0 (Or.inl rfl)
theorem enc_le2 (n : Nat) (h : n < 16384) : (Leb.enc n).length ≤ 2 := Leb.enc_len 1 n (by simpa using h)
theorem enc_le1 (n : Nat) (h : n < 128) : (Leb.enc n).length = 1 := by rw [Leb.enc_small n h]; rfl
theorem lit_le (b : List Int) (h : b.length ≤ 1000) : (lit b).length ≤ b.length + 2 := by
  unfold lit
  split
  · simp
  · have := enc_le2 (2 * b.length) (by omega)
    rw [List.length_append]; omega
theorem mk_len (old new : List Int) (ho : old.length ≤ 120) (hn : new.length ≤ 1000) (f : Nat) : ∀ (out : List Int) (frm i : Nat), frm ≤ i → i ≤ new.length →
    (mk old new f out frm i).length ≤ out.length + (new.length - frm) + 2 + (new.length - frm) / 4 := by
  induction f with
  | zero =>
    intro out frm i h1 h2
    have := lit_le (new.drop frm) (by rw [List.length_drop]; omega)
    rw [List.length_drop] at this
    rw [mk, List.length_append]
    omega
  | succ f ih =>
    intro out frm i h1 h2
    rw [mk]
    by_cases h : i < new.length
    · rw [if_pos h]
      have hg := best_good old (new.drop i)
      have h4 := best_big old (new.drop i)
      generalize best old (new.drop i) = r at *
      obtain ⟨n, p⟩ := r
      simp only at h4 ⊢
      by_cases h0 : n = 0
      · rw [if_pos h0]
        exact ih out frm (i + 1) (by omega) (by omega)
      · rw [if_neg h0]
        rcases hg with hg | ⟨g1, g2, g3, g4, _⟩
        · exact absurd hg h0
        · simp only [List.length_drop] at g1 g2 g3 g4
          have e1 := lit_le ((new.take i).drop frm) (by rw [List.length_drop, List.length_take]; omega)
          rw [List.length_drop, List.length_take] at e1
          have e2 := enc_le2 (2 * n.toNat + 1) (by omega)
          have e3 := enc_le1 p.toNat (by omega)
          have := ih (out ++ lit ((new.take i).drop frm) ++ Leb.enc (2 * n.toNat + 1) ++ Leb.enc p.toNat) (i + n.toNat) (i + n.toNat) (by omega) (by omega)
          simp only [List.length_append] at this
          omega
    · rw [if_neg h]
      have := lit_le (new.drop frm) (by rw [List.length_drop]; omega)
      rw [List.length_drop] at this
      rw [List.length_append]
      omega
theorem make_len (old new : List Int) (ho : old.length ≤ 120) (hn : new.length ≤ 1000) : (make old new).length ≤ new.length + 2 + new.length / 4 := by
  have := mk_len old new ho hn (new.length + 1) [] 0 0 (Nat.le_refl _) (Nat.zero_le _)
  unfold make
  simpa using this
theorem common_self (x : List Int) : common x x = x.length := by
  induction x with
  | nil => rfl
  | cons a x ih => simp only [common]; rw [if_pos trivial, ih]; rfl
theorem best_self (old : List Int) (h : 4 ≤ old.length) : best old old = ((old.length : Int), 0) := by
  unfold best
  rw [if_neg (by omega)]
  obtain ⟨m, hm⟩ : ∃ m, old.length - 3 = m + 1 := ⟨old.length - 4, by omega⟩
  have hp : ∃ r, pos old (old.length - 3) (old.take 4) = 0 :: r := by
    unfold pos
    rw [hm, List.range_succ_eq_map, List.filter_cons, if_pos (by simp [q4])]
    exact ⟨_, rfl⟩
  obtain ⟨r, hr⟩ := hp
  rw [hr]
  have e : (common (old.drop (0 : Int).toNat) old : Int) = old.length := by
    rw [show (0 : Int).toNat = 0 from rfl, List.drop_zero, common_self]
  have hfin : ∀ zs : List Int, bestL old old zs (old.length : Int) 0 = ((old.length : Int), 0) := by
    intro zs
    cases zs with
    | nil => rfl
    | cons z zs => rw [bestL, if_pos (Or.inl rfl)]
  rw [bestL, if_neg (by omega), if_neg (by omega), e, if_pos (by omega), hfin]
theorem make_self (old : List Int) (ho : old.length ≤ 120) (h : 4 ≤ old.length) : (make old old).length ≤ 4 := by
  unfold make
  rw [mk, if_pos (by omega), List.drop_zero, best_self old h]
  simp only [Int.toNat_natCast]
  rw [if_neg (by omega)]
  obtain ⟨j, hj⟩ : ∃ j, old.length = j + 1 := ⟨old.length - 1, by omega⟩
  have e1 := enc_le2 (2 * old.length + 1) (by omega)
  have e2 := enc_le1 (0 : Int).toNat (by decide)
  have hl : lit (old.drop (0 + old.length)) = [] := by rw [Nat.zero_add, List.drop_length]; rfl
  have hl0 : lit ((old.take 0).drop 0) = [] := by simp [lit]
  rw [show mk old old old.length = mk old old (j + 1) by rw [← hj], mk, if_neg (by omega), hl, hl0]
  simp only [List.length_append, List.length_nil]
  omega
end Go.Proofs.Ytmaefdeigienjaa.DeltaM
