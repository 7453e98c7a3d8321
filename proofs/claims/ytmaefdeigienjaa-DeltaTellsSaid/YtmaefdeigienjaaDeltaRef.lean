/- Package delta: the greatest match among all places is the one among those that begin alike; plain laws, no program. -/
import Derived.Test.YtmaefdeigienjaaDeltaLen
namespace Go.Proofs.Ytmaefdeigienjaa.DeltaM
open Go Go.RowKit Go.Proofs.YtmaefdeigienjaaW.PrintWords
/-- the greatest match over some places, its first place (no short ways) -/
def foldM (old new : List Int) : List Int → Int → Int → Int × Int
  | [], n, p => (n, p)
  | z :: r, n, p => if n < (common (old.drop z.toNat) new : Int) then foldM old new r (common (old.drop z.toNat) new : Int) z else foldM old new r n p
theorem common_stop : ∀ (n : Nat) (x y : List Int), n < x.length → n < y.length → x.getD n 0 ≠ y.getD n 0 → common x y ≤ n := by
  intro n
  induction n with
  | zero =>
    intro x y hx hy h
    cases x with
    | nil => simp at hx
    | cons a x => cases y with
      | nil => simp at hy
      | cons b y => simp only [common]; rw [if_neg (by simpa using h)]; omega
  | succ n ih =>
    intro x y hx hy h
    cases x with
    | nil => simp at hx
    | cons a x => cases y with
      | nil => simp at hy
      | cons b y =>
        simp only [List.length_cons] at hx hy
        have := ih x y (by omega) (by omega) (by simpa using h)
        simp only [common]
        split <;> omega
/-- later places cannot be greater, where this one's rest is not -/
theorem foldM_stop (old new : List Int) : ∀ (zs : List Int) (n p : Int), (∀ z ∈ zs, (common (old.drop z.toNat) new : Int) ≤ n) → foldM old new zs n p = (n, p) := by
  intro zs
  induction zs with
  | nil => intro n p _; rfl
  | cons z r ih =>
    intro n p h
    rw [foldM, if_neg (by have := h z (by simp); omega), ih n p (fun y hy => h y (by simp [hy]))]
theorem bestL_fold (old new : List Int) : ∀ (zs : List Int) (n p : Int), (∀ z ∈ zs, 0 ≤ z ∧ z < old.length) → zs.Pairwise (· ≤ ·) → 0 ≤ n → n ≤ new.length → bestL old new zs n p = foldM old new zs n p := by
  intro zs
  induction zs with
  | nil => intro n p _ _ _ _; rfl
  | cons z r ih =>
    intro n p hz hs h0 h1
    have hz' := hz z (by simp)
    have hr := fun y hy => hz y (List.mem_cons_of_mem z hy)
    have hs2 := List.pairwise_cons.1 hs
    have hc := common_le (old.drop z.toNat) new
    rw [List.length_drop] at hc
    rw [bestL]
    by_cases c1 : n = (new.length : Int) ∨ (old.length : Int) ≤ z + n
    · rw [if_pos c1]
      refine (foldM_stop old new _ n p (fun y hy => ?_)).symm
      have hy1 : z ≤ y := by
        rcases List.mem_cons.1 hy with rfl | hy
        · exact Int.le_refl _
        · exact hs2.1 y hy
      have := common_le (old.drop y.toNat) new
      rw [List.length_drop] at this
      rcases c1 with c1 | c1 <;> omega
    · rw [if_neg c1, foldM]
      by_cases c2 : 0 < n ∧ rd old (z + n) ≠ rd new n
      · rw [if_pos c2]
        have hst : common (old.drop z.toNat) new ≤ n.toNat := by
          refine common_stop n.toNat _ _ (by rw [List.length_drop]; omega) (by omega) ?_
          have e1 : (old.drop z.toNat).getD n.toNat 0 = rd old (z + n) := by
            unfold rd
            rw [List.getD_eq_getElem?_getD, List.getD_eq_getElem?_getD, List.getElem?_drop]
            congr 2; omega
          rw [e1]
          exact c2.2
        rw [if_neg (by omega), ih n p hr hs2.2 h0 h1]
      · rw [if_neg c2]
        by_cases c3 : n < (common (old.drop z.toNat) new : Int)
        · rw [if_pos c3, if_pos c3, ih _ z hr hs2.2 (by omega) (by omega)]
        · rw [if_neg c3, if_neg c3, ih n p hr hs2.2 h0 h1]
/-- places from j on, so many -/
def places (j d : Nat) : List Int := (List.range' j d).map (fun (i : Nat) => (i : Int))
theorem places_succ (j d : Nat) : places j (d + 1) = (j : Int) :: places (j + 1) d := by simp [places, List.range'_succ]
def longest (old new : List Int) : Int × Int := foldM old new (places 0 old.length) 0 0
theorem foldM_rel (old new : List Int) : ∀ (zs : List Int) (n p n' p' : Int), (4 ≤ n ∧ n' = n ∧ p' = p) ∨ (n < 4 ∧ n' = 0 ∧ p' = 0 ∧ 0 ≤ n) →
    (4 ≤ (foldM old new zs n p).1 ∧ foldM old new (zs.filter (fun z => decide (4 ≤ common (old.drop z.toNat) new))) n' p' = foldM old new zs n p) ∨
    ((foldM old new zs n p).1 < 4 ∧ foldM old new (zs.filter (fun z => decide (4 ≤ common (old.drop z.toNat) new))) n' p' = (0, 0)) := by
  intro zs
  induction zs with
  | nil =>
    intro n p n' p' h
    rcases h with ⟨h1, rfl, rfl⟩ | ⟨h1, rfl, rfl, _⟩
    · left; exact ⟨h1, rfl⟩
    · right; exact ⟨h1, rfl⟩
  | cons z r ih =>
    intro n p n' p' h
    have e1 : foldM old new (z :: r) n p = if n < (common (old.drop z.toNat) new : Int) then foldM old new r (common (old.drop z.toNat) new : Int) z else foldM old new r n p := rfl
    rw [e1]
    by_cases c1 : 4 ≤ common (old.drop z.toNat) new
    · rw [List.filter_cons_of_pos (by simpa using c1)]
      have e2 : ∀ F : List Int, foldM old new (z :: F) n' p' = if n' < (common (old.drop z.toNat) new : Int) then foldM old new F (common (old.drop z.toNat) new : Int) z else foldM old new F n' p' := fun _ => rfl
      rw [e2]
      by_cases c2 : n < (common (old.drop z.toNat) new : Int)
      · have c3 : n' < (common (old.drop z.toNat) new : Int) := by omega
        rw [if_pos c2, if_pos c3]
        exact ih _ _ _ _ (Or.inl ⟨by omega, rfl, rfl⟩)
      · have c3 : ¬ n' < (common (old.drop z.toNat) new : Int) := by omega
        rw [if_neg c2, if_neg c3]
        exact ih _ _ _ _ h
    · rw [List.filter_cons_of_neg (by simpa using c1)]
      by_cases c2 : n < (common (old.drop z.toNat) new : Int)
      · rw [if_pos c2]
        exact ih _ _ _ _ (by right; omega)
      · rw [if_neg c2]
        exact ih _ _ _ _ h
theorem pos_filter (old new : List Int) (h4 : 4 ≤ new.length) : (places 0 old.length).filter (fun z => decide (4 ≤ common (old.drop z.toNat) new)) = pos old (old.length - 3) (new.take 4) := by
  unfold places pos
  rw [← List.range_eq_range', List.filter_map]
  congr 1
  have hs : List.range old.length = List.range (old.length - 3) ++ (List.range (old.length - (old.length - 3))).map (fun x => (old.length - 3) + x) := by
    rw [← List.range_add]; congr 1; omega
  rw [hs, List.filter_append]
  have e1 : ((List.range (old.length - (old.length - 3))).map (fun x => (old.length - 3) + x)).filter ((fun z : Int => decide (4 ≤ common (old.drop z.toNat) new)) ∘ fun (i : Nat) => (i : Int)) = [] := by
    rw [List.filter_eq_nil_iff]
    intro i hi
    obtain ⟨t, ht, rfl⟩ := List.mem_map.1 hi
    have := (common_le (old.drop ((old.length - 3) + t)) new).1
    rw [List.length_drop] at this
    simp only [Function.comp, Int.toNat_natCast, decide_eq_true_eq]
    omega
  rw [e1, List.append_nil]
  apply List.filter_congr
  intro i hi
  have hi' := List.mem_range.1 hi
  simp only [Function.comp, Int.toNat_natCast]
  by_cases hq : q4 old i = new.take 4
  · rw [decide_eq_true hq, decide_eq_true (common_ge 4 _ _ (by rw [List.length_drop]; omega) h4 hq)]
  · rw [decide_eq_false hq, decide_eq_false]
    intro hc
    apply hq
    have ht := common_take (old.drop i) new
    have : ((old.drop i).take (common (old.drop i) new)).take 4 = (new.take (common (old.drop i) new)).take 4 := by rw [ht]
    rw [List.take_take, List.take_take, Nat.min_eq_left hc] at this
    exact this
theorem pos_sorted (l : List Int) (m : Nat) (q : List Int) : (pos l m q).Pairwise (· ≤ ·) := by
  unfold pos
  rw [List.pairwise_map]
  exact ((List.pairwise_lt_range (n := m)).filter _).imp (fun h => by omega)
/-- the greatest match: among all places, and by their keys -/
theorem best_longest (old new : List Int) : (4 ≤ (longest old new).1 ∧ best old new = longest old new) ∨ ((longest old new).1 < 4 ∧ best old new = (0, 0)) := by
  by_cases h4 : new.length < 4
  · right
    have hb : best old new = (0, 0) := if_pos h4
    refine ⟨?_, hb⟩
    have key : ∀ (zs : List Int) (n p : Int), n < 4 → (foldM old new zs n p).1 < 4 := by
      intro zs
      induction zs with
      | nil => intro n p h; exact h
      | cons z r ih =>
        intro n p h
        have := (common_le (old.drop z.toNat) new).2
        rw [foldM]
        split
        · exact ih _ _ (by omega)
        · exact ih _ _ h
    exact key _ 0 0 (by decide)
  · have hb : best old new = foldM old new (pos old (old.length - 3) (new.take 4)) 0 0 := by
      unfold best
      rw [if_neg h4]
      refine bestL_fold old new _ 0 0 (fun z hz => ?_) (pos_sorted _ _ _) (by decide) (by omega)
      have := pos_mem hz
      omega
    rw [← pos_filter old new (by omega)] at hb
    rw [hb]
    exact foldM_rel old new (places 0 old.length) 0 0 0 0 (Or.inr ⟨by decide, rfl, rfl, by decide⟩)
theorem longest_bounds (old new : List Int) : 0 ≤ (longest old new).1 ∧ (longest old new).1 ≤ new.length ∧ 0 ≤ (longest old new).2 ∧ (longest old new).2 ≤ old.length := by
  have key : ∀ (zs : List Int), (∀ z ∈ zs, 0 ≤ z ∧ z ≤ old.length) → ∀ (n p : Int), 0 ≤ n → n ≤ new.length → 0 ≤ p → p ≤ old.length → 0 ≤ (foldM old new zs n p).1 ∧ (foldM old new zs n p).1 ≤ new.length ∧ 0 ≤ (foldM old new zs n p).2 ∧ (foldM old new zs n p).2 ≤ old.length := by
    intro zs
    induction zs with
    | nil => intro _ n p h1 h2 h3 h4; exact ⟨h1, h2, h3, h4⟩
    | cons z r ih =>
      intro hz n p h1 h2 h3 h4
      have hz' := hz z (by simp)
      have hc := (common_le (old.drop z.toNat) new).2
      rw [foldM]
      split
      · exact ih (fun y hy => hz y (by simp [hy])) _ _ (by omega) (by omega) hz'.1 hz'.2
      · exact ih (fun y hy => hz y (by simp [hy])) _ _ h1 h2 h3 h4
  refine key _ (fun z hz => ?_) 0 0 (by omega) (by omega) (by omega) (by omega)
  unfold places at hz
  obtain ⟨i, hi, rfl⟩ := List.mem_map.1 hz
  have := List.mem_range'_1.1 hi
  omega
end Go.Proofs.Ytmaefdeigienjaa.DeltaM
