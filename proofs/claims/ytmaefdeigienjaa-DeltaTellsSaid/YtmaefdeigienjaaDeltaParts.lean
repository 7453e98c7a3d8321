/- Package delta: what Make comes to is parts, one behind the other, and what these come to is the new bytes; plain laws, no program. -/
import Derived.Test.YtmaefdeigienjaaDeltaPlain
namespace Go.Proofs.Ytmaefdeigienjaa.DeltaM
open Go Go.RowKit
/-- a part: bytes of its own, or so many of the old ones from a place on -/
abbrev Part := Sum (List Int) (Nat × Nat)
def pbytes : Part → List Int
  | .inl xs => Leb.enc (2 * xs.length) ++ xs
  | .inr (n, p) => Leb.enc (2 * n + 1) ++ Leb.enc p
def pval (old : List Int) : Part → List Int
  | .inl xs => xs
  | .inr (n, p) => (old.drop p).take n
def pok (old : List Int) : Part → Prop
  | .inl xs => 1 ≤ xs.length ∧ ∀ x ∈ xs, 0 ≤ x ∧ x < 256
  | .inr (n, p) => 1 ≤ n ∧ p + n ≤ old.length
theorem common_take (x y : List Int) : x.take (common x y) = y.take (common x y) := by
  induction x generalizing y with
  | nil => simp [common]
  | cons a x ih => cases y with
    | nil => simp [common]
    | cons b y =>
      simp only [common]
      split
      · rename_i h; rw [List.take_succ_cons, List.take_succ_cons, h, ih y]
      · rfl
def good (old new : List Int) (r : Int × Int) : Prop := r.1 = 0 ∨ (0 < r.1 ∧ r.1 ≤ new.length ∧ 0 ≤ r.2 ∧ r.2 + r.1 ≤ old.length ∧ (old.drop r.2.toNat).take r.1.toNat = new.take r.1.toNat)
theorem bestL_good (old new : List Int) (zs : List Int) (hz : ∀ z ∈ zs, 0 ≤ z ∧ z < old.length) : ∀ n p : Int, good old new (n, p) → good old new (bestL old new zs n p) := by
  induction zs with
  | nil => intro n p h; exact h
  | cons z r ih =>
    intro n p h
    have hz' := hz z (by simp)
    have hc := common_le (old.drop z.toNat) new
    have ht := common_take (old.drop z.toNat) new
    have ih' := ih (fun x hx => hz x (by simp [hx]))
    rw [List.length_drop] at hc
    simp only [bestL]
    split
    · exact h
    · split
      · exact ih' n p h
      · split
        · rename_i hlt
          refine ih' _ z ?_
          by_cases h0 : common (old.drop z.toNat) new = 0
          · left; simp [h0]
          · right
            simp only [Int.toNat_natCast]
            exact ⟨by omega, by omega, hz'.1, by omega, ht⟩
        · exact ih' n p h
theorem best_good (old new : List Int) : good old new (best old new) := by
  unfold best
  split
  · left; rfl
  · refine bestL_good old new _ (fun z hz => ?_) 0 0 (Or.inl rfl)
    have := pos_mem hz
    omega
theorem lit_parts (old b : List Int) (hb : ∀ x ∈ b, 0 ≤ x ∧ x < 256) : ∃ ps : List Part, lit b = ps.flatMap pbytes ∧ ps.flatMap (pval old) = b ∧ (∀ p ∈ ps, pok old p) := by
  by_cases h : b.length = 0
  · refine ⟨[], by simp [lit, h], ?_, by simp⟩
    rw [List.length_eq_zero_iff.1 h]; rfl
  · refine ⟨[.inl b], by simp [lit, h, pbytes], by simp [pval], ?_⟩
    intro p hp
    simp only [List.mem_singleton] at hp
    subst hp
    exact ⟨by omega, hb⟩
theorem drop_mid (l : List Int) (frm i : Nat) (h : frm ≤ i) (h2 : i ≤ l.length) : (l.take i).drop frm ++ l.drop i = l.drop frm := by
  conv => rhs; rw [← List.take_append_drop i l]
  rw [List.drop_append_of_le_length (by rw [List.length_take]; omega)]
theorem mk_parts (old new : List Int) (hb : ∀ x ∈ new, 0 ≤ x ∧ x < 256) (f : Nat) : ∀ (out : List Int) (frm i : Nat), frm ≤ i → i ≤ new.length →
    ∃ ps : List Part, mk old new f out frm i = out ++ ps.flatMap pbytes ∧ ps.flatMap (pval old) = new.drop frm ∧ (∀ p ∈ ps, pok old p) := by
  induction f with
  | zero =>
    intro out frm i h1 h2
    obtain ⟨ps, e1, e2, e3⟩ := lit_parts old (new.drop frm) (fun x hx => hb x (List.mem_of_mem_drop hx))
    exact ⟨ps, by rw [mk, e1], e2, e3⟩
  | succ f ih =>
    intro out frm i h1 h2
    rw [mk]
    by_cases h : i < new.length
    · rw [if_pos h]
      have hg := best_good old (new.drop i)
      generalize best old (new.drop i) = r at *
      obtain ⟨n, p⟩ := r
      simp only
      by_cases h0 : n = 0
      · rw [if_pos h0]
        exact ih out frm (i + 1) (by omega) (by omega)
      · rw [if_neg h0]
        rcases hg with hg | ⟨g1, g2, g3, g4, g5⟩
        · exact absurd hg h0
        · simp only [List.length_drop] at g1 g2 g3 g4 g5
          obtain ⟨ps, e1, e2, e3⟩ := lit_parts old ((new.take i).drop frm) (fun x hx => hb x (List.mem_of_mem_take (List.mem_of_mem_drop hx)))
          obtain ⟨qs, f1, f2, f3⟩ := ih (out ++ lit ((new.take i).drop frm) ++ Leb.enc (2 * n.toNat + 1) ++ Leb.enc p.toNat) (i + n.toNat) (i + n.toNat) (by omega) (by omega)
          refine ⟨ps ++ [.inr (n.toNat, p.toNat)] ++ qs, ?_, ?_, ?_⟩
          · rw [f1, e1]; simp [pbytes]
          · simp only [List.flatMap_append, e2, f2]
            rw [show List.flatMap (pval old) [Sum.inr (n.toNat, p.toNat)] = (old.drop p.toNat).take n.toNat by simp [pval], g5]
            have : (new.drop i).take n.toNat ++ new.drop (i + n.toNat) = new.drop i := by
              rw [← List.drop_drop]; exact List.take_append_drop _ _
            rw [List.append_assoc, this, drop_mid new frm i h1 h2]
          · intro q hq
            simp only [List.mem_append, List.mem_singleton] at hq
            rcases hq with (hq | rfl) | hq
            · exact e3 q hq
            · exact ⟨by omega, by omega⟩
            · exact f3 q hq
    · rw [if_neg h]
      obtain ⟨ps, e1, e2, e3⟩ := lit_parts old (new.drop frm) (fun x hx => hb x (List.mem_of_mem_drop hx))
      exact ⟨ps, by rw [e1], e2, e3⟩
theorem make_parts (old new : List Int) (hb : ∀ x ∈ new, 0 ≤ x ∧ x < 256) : ∃ ps : List Part, make old new = ps.flatMap pbytes ∧ ps.flatMap (pval old) = new ∧ (∀ p ∈ ps, pok old p) := by
  obtain ⟨ps, e1, e2, e3⟩ := mk_parts old new hb (new.length + 1) [] 0 0 (Nat.le_refl _) (Nat.zero_le _)
  exact ⟨ps, by unfold make; rw [e1]; rfl, by rw [e2]; rfl, e3⟩
theorem pbytes_byte (old : List Int) (p : Part) (h : pok old p) : ∀ x ∈ pbytes p, 0 ≤ x ∧ x < 256 := by
  rcases p with xs | ⟨n, q⟩
  · intro x hx
    simp only [pbytes, List.mem_append] at hx
    rcases hx with hx | hx
    · exact Leb.enc_byte _ x hx
    · exact h.2 x hx
  · intro x hx
    simp only [pbytes, List.mem_append] at hx
    rcases hx with hx | hx
    · exact Leb.enc_byte _ x hx
    · exact Leb.enc_byte _ x hx
theorem parts_byte (old : List Int) (ps : List Part) (h : ∀ p ∈ ps, pok old p) : ∀ x ∈ ps.flatMap pbytes, 0 ≤ x ∧ x < 256 := by
  intro x hx
  obtain ⟨p, hp, hx⟩ := List.mem_flatMap.1 hx
  exact pbytes_byte old p (h p hp) x hx
theorem pval_pos (old : List Int) (p : Part) (h : pok old p) : 1 ≤ (pval old p).length := by
  rcases p with xs | ⟨n, q⟩
  · exact h.1
  · simp only [pval, List.length_take, List.length_drop]
    have := h.1
    have := h.2
    omega
theorem parts_len (old : List Int) (ps : List Part) (h : ∀ p ∈ ps, pok old p) : ps.length ≤ (ps.flatMap (pval old)).length := by
  induction ps with
  | nil => simp
  | cons p ps ih =>
    have := pval_pos old p (h p (by simp))
    have := ih (fun q hq => h q (by simp [hq]))
    simp only [List.flatMap_cons, List.length_append, List.length_cons]
    omega
theorem parts_blen (old : List Int) (hold : old.length ≤ 100000) (ps : List Part) (h : ∀ p ∈ ps, pok old p) : (ps.flatMap (pval old)).length ≤ 100000 → (ps.flatMap pbytes).length ≤ 20 * (ps.flatMap (pval old)).length := by
  induction ps with
  | nil => simp
  | cons p ps ih =>
    intro hl
    have h0 := h p (by simp)
    have h1 := pval_pos old p h0
    simp only [List.flatMap_cons, List.length_append] at hl ⊢
    have h2 := ih (fun q hq => h q (by simp [hq])) (by omega)
    have h3 : (pbytes p).length ≤ 20 * (pval old p).length := by
      rcases p with xs | ⟨n, q⟩
      · simp only [pbytes, pval, List.length_append] at h1 hl ⊢
        have := Leb.enc_len10 (2 * xs.length) (by omega)
        omega
      · obtain ⟨g1, g2⟩ := h0
        simp only [pbytes, List.length_append]
        have := Leb.enc_len10 (2 * n + 1) (by omega)
        have := Leb.enc_len10 q (by omega)
        omega
    omega
end Go.Proofs.Ytmaefdeigienjaa.DeltaM
