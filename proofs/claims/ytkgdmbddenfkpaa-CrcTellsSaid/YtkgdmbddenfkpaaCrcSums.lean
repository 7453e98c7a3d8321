/- Plain laws of sums of bytes: they go on, tell four neighbours apart, and those of three texts come together; for all bytes. -/
import Derived.Test.YtkgdmbddenfkpaaCrcWalk
import Derived.Test.YtkgdmbddenfkpaaZigMath
namespace Go.Proofs.Ytkgdmbddenfkpaa.CrcW
open Go.RowKit Go.Proofs.YtkgdmbddenfkpaaW.PrintWords
theorem xx (x : Nat) : 4294967295 ^^^ (4294967295 ^^^ x) = x := by rw [← Nat.xor_assoc, Nat.xor_self, Nat.zero_xor]
theorem nb_app (a b : List Int) : nb (a ++ b) = nb a ++ nb b := List.map_append
theorem more_more (a : Nat) (l m : List Int) : moreI (moreI a l) m = moreI a (l ++ m) := by unfold moreI; rw [xx, nb_app, CrcM.run_app]
theorem more_nil (a : Nat) : moreI a [] = a := xx a
theorem more_lt (a : Nat) (ha : a < 4294967296) (l : List Int) (hb : ∀ x ∈ l, 0 ≤ x ∧ x < 256) : moreI a l < 4294967296 :=
  Nat.xor_lt_two_pow (n := 32) (by decide) (run_lt _ (Nat.xor_lt_two_pow (n := 32) (by decide) ha) l hb)
theorem nb_inj (a b : List Int) (ha : ∀ x ∈ a, 0 ≤ x ∧ x < 256) (hb : ∀ x ∈ b, 0 ≤ x ∧ x < 256) (h : nb a = nb b) : a = b := by
  induction a generalizing b with
  | nil => cases b with
    | nil => rfl
    | cons => simp [nb] at h
  | cons x a ih => cases b with
    | nil => simp [nb] at h
    | cons y b =>
      simp only [nb, List.map_cons, List.cons.injEq] at h
      have hx := ha x (by simp)
      have hy := hb y (by simp)
      rw [show x = y by omega, ih b (fun z hz => ha z (by simp [hz])) (fun z hz => hb z (by simp [hz])) h.2]
/-- texts that are others at four neighbours at most have other sums -/
theorem sum_ne (n : Nat) (c l : List Int) (hl : c.length = l.length) (hc : ∀ x ∈ c, 0 ≤ x ∧ x < 256) (hb : ∀ x ∈ l, 0 ≤ x ∧ x < 256)
    (ho : ∀ j, j < n ∨ n + 4 ≤ j → c[j]? = l[j]?) (h : moreI 0 c = moreI 0 l) : c = l := by
  have e1 : c.take n = l.take n := by
    apply List.ext_getElem?
    intro j
    rw [List.getElem?_take, List.getElem?_take]
    by_cases hj : j < n
    · rw [if_pos hj, if_pos hj]; exact ho j (.inl hj)
    · rw [if_neg hj, if_neg hj]
  have e2 : c.drop (n + 4) = l.drop (n + 4) := by
    apply List.ext_getElem?
    intro j
    rw [List.getElem?_drop, List.getElem?_drop]
    exact ho _ (.inr (by omega))
  have split3 : ∀ z : List Int, z = z.take n ++ (z.drop n).take 4 ++ z.drop (n + 4) := by
    intro z
    rw [List.append_assoc, show z.drop (n + 4) = (z.drop n).drop 4 from by rw [List.drop_drop], List.take_append_drop, List.take_append_drop]
  have mt : ∀ (z : List Int), (∀ x ∈ z, 0 ≤ x ∧ x < 256) → ∀ (k : Nat), ∀ x ∈ z.take k, 0 ≤ x ∧ x < 256 := fun z hz k x hx => hz x (List.mem_of_mem_take hx)
  have md : ∀ (z : List Int), (∀ x ∈ z, 0 ≤ x ∧ x < 256) → ∀ (k : Nat), ∀ x ∈ z.drop k, 0 ≤ x ∧ x < 256 := fun z hz k x hx => hz x (List.mem_of_mem_drop hx)
  have hr : CrcM.run (4294967295 ^^^ 0) (nb c) = CrcM.run (4294967295 ^^^ 0) (nb l) := by
    have := congrArg (4294967295 ^^^ ·) h
    simpa only [moreI, xx] using this
  have hm : nb ((c.drop n).take 4) = nb ((l.drop n).take 4) := by
    refine CrcM.turned (4294967295 ^^^ 0) (by decide) (nb (l.take n)) _ _ (nb (l.drop (n + 4))) (nb_lt _ (mt l hb n)) (nb_lt _ (mt _ (md c hc n) 4)) (nb_lt _ (mt _ (md l hb n) 4)) (nb_lt _ (md l hb (n + 4))) ?_ ?_ ?_
    · simp only [nb, List.length_map, List.length_take, List.length_drop]; omega
    · simp only [nb, List.length_map, List.length_take]; omega
    · rw [split3 c, split3 l, nb_app, nb_app, nb_app, nb_app, e1, e2] at hr
      exact hr
  have e3 := nb_inj _ _ (mt _ (md c hc n) 4) (mt _ (md l hb n) 4) hm
  rw [split3 c, split3 l, e1, e2, e3]
/-- three texts of one length come together -/
theorem sum3 (n : Nat) (a b c : List Int) (ha : n ≤ a.length) (hb : n ≤ b.length) (hc : n ≤ c.length)
    (f : Nat → Int) (hf : ∀ i, i < n → f i = (((a.getD i 0).toNat ^^^ (b.getD i 0).toNat ^^^ (c.getD i 0).toNat : Nat) : Int)) :
    moreI 0 ((List.range n).map f) = moreI 0 (a.take n) ^^^ moreI 0 (b.take n) ^^^ moreI 0 (c.take n) := by
  have e : nb ((List.range n).map f) = CrcM.dif (CrcM.dif (nb (a.take n)) (nb (b.take n))) (nb (c.take n)) := by
    apply List.ext_getElem
    · simp only [nb, CrcM.dif, List.length_map, List.length_range, List.length_zipWith, List.length_take]; omega
    · intro i h1 h2
      have hi : i < n := by simpa [nb] using h1
      have g : ∀ z : List Int, n ≤ z.length → ∀ h : i < z.length, z.getD i 0 = z[i] := fun z _ h => by rw [List.getD_eq_getElem?_getD, List.getElem?_eq_getElem h, Option.getD_some]
      simp only [nb, CrcM.dif, List.getElem_map, List.getElem_range, List.getElem_zipWith, List.getElem_take]
      rw [hf i hi, Int.toNat_natCast, g a ha (by omega), g b hb (by omega), g c hc (by omega)]
  unfold moreI
  rw [e, show (4294967295 ^^^ 0 : Nat) = (4294967295 ^^^ 0) ^^^ (4294967295 ^^^ 0) ^^^ (4294967295 ^^^ 0) from by decide, CrcM.run3 _ _ _ _ _ _ (by simp [nb]; omega) (by simp [nb]; omega)]
  rw [show (4294967295 ^^^ 0) ^^^ (4294967295 ^^^ 0) ^^^ (4294967295 ^^^ 0) = (4294967295 ^^^ 0 : Nat) from by decide]
  generalize CrcM.run (4294967295 ^^^ 0) (nb (a.take n)) = x
  generalize CrcM.run (4294967295 ^^^ 0) (nb (b.take n)) = y
  generalize CrcM.run (4294967295 ^^^ 0) (nb (c.take n)) = z
  rw [show 4294967295 ^^^ x ^^^ (4294967295 ^^^ y) ^^^ (4294967295 ^^^ z) = (4294967295 ^^^ 4294967295) ^^^ (4294967295 ^^^ (x ^^^ y ^^^ z)) from by ac_rfl, Nat.xor_self, Nat.zero_xor]
end Go.Proofs.Ytkgdmbddenfkpaa.CrcW
