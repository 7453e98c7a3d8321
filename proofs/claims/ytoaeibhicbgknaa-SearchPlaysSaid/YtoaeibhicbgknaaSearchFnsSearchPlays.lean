/- The printed search (Find, near, find, Type, Again, Rub) told by plain functions. -/
import Derived.Test.YtoaeibhicbgknaaQSearchPlaysx8
namespace Go.Proofs.Ytoaeibhicbgknaa.QSearchPlays
open Go.RowKit Go.Proofs.YtoaeibhicbgknaaW.PrintWords Go.Proofs.YtoaeibhicbgknaaW.PrintLast Go.Proofs.YtoaeibhicbgknaaW.PrintMore
theorem w64_in (n : Int) (h : -9223372036854775808 ≤ n ∧ n ≤ 9223372036854775807) : wrap64 n = n := by unfold wrap64; omega
/-- the last of the first n lines that the text stands in -/
def scanD (h : List ByteArray) (p : List UInt8) : Nat → Int
  | 0 => -1
  | n + 1 => if Lib.contains (h.getD n ByteArray.empty).data.toList p then (n : Int) else scanD h p n
/-- the first of n lines from i on that the text stands in -/
def scanU (h : List ByteArray) (p : List UInt8) : Nat → Nat → Int
  | 0, _ => -1
  | n + 1, i => if Lib.contains (h.getD i ByteArray.empty).data.toList p then (i : Int) else scanU h p n (i + 1)
def Small (h : List ByteArray) : Prop := h.length ≤ 1000 ∧ ∀ s ∈ h, s.size ≤ 100
theorem Small.get {h : List ByteArray} (H : Small h) (i : Nat) : (h.getD i ByteArray.empty).size ≤ 100 := by
  by_cases hi : i < h.length
  · rw [List.getD_eq_getElem?_getD, List.getElem?_eq_getElem hi]
    exact H.2 _ (List.getElem_mem hi)
  · rw [List.getD_eq_getElem?_getD, List.getElem?_eq_none (by omega)]
    decide
theorem scanD_range (h : List ByteArray) (p : List UInt8) (n : Nat) : -1 ≤ scanD h p n ∧ scanD h p n < n := by
  induction n with
  | zero => exact ⟨by simp [scanD], by simp [scanD]⟩
  | succ n ih =>
    unfold scanD
    split
    · omega
    · omega
theorem scanU_range (h : List ByteArray) (p : List UInt8) (n i : Nat) : -1 ≤ scanU h p n i ∧ scanU h p n i < i + n := by
  induction n generalizing i with
  | zero => exact ⟨by simp [scanU], by simp only [scanU]; omega⟩
  | succ n ih =>
    unfold scanU
    have := ih (i + 1)
    split
    · omega
    · omega
theorem contains_f {h : List ByteArray} (H : Small h) (p : ByteArray) (i : Nat) : strings_Contains.f (h.getD i ByteArray.empty) p = some (Lib.contains (h.getD i ByteArray.empty).data.toList p.data.toList) := by
  have := H.get i
  unfold strings_Contains.f
  rw [if_pos (by omega)]
theorem find_down {h : List ByteArray} (H : Small h) (p : ByteArray) : ∀ n : Nat, n ≤ h.length → ∀ k, 2 * n + 2 ≤ k → hist_Find.l0 k h p ((n : Int) - 1) (-1) = some (scanD h p.data.toList n) := by
  intro n
  induction n with
  | zero =>
    intro _ k hk
    obtain ⟨k, rfl⟩ : ∃ m, k = m + 2 := ⟨k - 2, by omega⟩
    rw [hist_Find.l0, if_neg (by omega), hist_Find.j4, if_neg (by decide)]
    rfl
  | succ n ih =>
    intro hn k hk
    obtain ⟨k, rfl⟩ : ∃ m, k = m + 2 := ⟨k - 2, by omega⟩
    have hl := H.1
    have e1 : ((n + 1 : Nat) : Int) - 1 = (n : Int) := by omega
    have e2 : wrap64 ((n : Int) + -1) = (n : Int) - 1 := w64_in _ (by omega)
    have e3 : ((n : Int)).toNat = n := by omega
    rw [e1, hist_Find.l0, if_pos (show (n : Int) ≥ 0 by omega), decide_eq_true (show (n : Int) < (h.length : Int) by omega), hist_Find.j4, if_pos rfl, if_pos (show (0 : Int) ≤ (n : Int) by omega), if_pos (show (n : Int) < (h.length : Int) by omega)]
    unfold rdOf
    rw [e3, contains_f H, Option.bind_some, e2, scanD]
    split
    · rfl
    · exact ih (by omega) k (by omega)
theorem find_up {h : List ByteArray} (H : Small h) (p : ByteArray) : ∀ n i : Nat, i + n = h.length → ∀ k, 2 * n + 2 ≤ k → hist_Find.l0 k h p (i : Int) 1 = some (scanU h p.data.toList n i) := by
  intro n
  induction n with
  | zero =>
    intro i hi k hk
    obtain ⟨k, rfl⟩ : ∃ m, k = m + 2 := ⟨k - 2, by omega⟩
    rw [hist_Find.l0, if_pos (show (i : Int) ≥ 0 by omega), decide_eq_false (show ¬ (i : Int) < (h.length : Int) by omega), hist_Find.j4, if_neg (by decide)]
    rfl
  | succ n ih =>
    intro i hi k hk
    obtain ⟨k, rfl⟩ : ∃ m, k = m + 2 := ⟨k - 2, by omega⟩
    have hl := H.1
    have e2 : wrap64 ((i : Int) + 1) = ((i + 1 : Nat) : Int) := (w64_in _ (by omega)).trans (by omega)
    have e3 : ((i : Int)).toNat = i := by omega
    rw [hist_Find.l0, if_pos (show (i : Int) ≥ 0 by omega), decide_eq_true (show (i : Int) < (h.length : Int) by omega), hist_Find.j4, if_pos rfl, if_pos (show (0 : Int) ≤ (i : Int) by omega), if_pos (show (i : Int) < (h.length : Int) by omega)]
    unfold rdOf
    rw [e3, contains_f H, Option.bind_some, e2, scanU]
    split
    · rfl
    · exact ih (i + 1) (by omega) k (by omega)
/-- the document's Find -/
def findS (h : List ByteArray) (p : List UInt8) (fr : Int) (back : Bool) : Int :=
  if p = [] then -1 else if back then (if fr ≥ (h.length : Int) then scanD h p h.length else scanD h p (fr + 1).toNat) else scanU h p (h.length - fr.toNat) fr.toNat
theorem findS_range (h : List ByteArray) (p : List UInt8) (fr : Int) (back : Bool) (h0 : 0 ≤ fr) : -1 ≤ findS h p fr back ∧ (findS h p fr back < h.length ∨ findS h p fr back < 0) := by
  unfold findS
  split
  · omega
  · split
    · split
      · have := scanD_range h p h.length; omega
      · have := scanD_range h p (fr + 1).toNat; omega
    · by_cases hf : fr.toNat ≤ h.length
      · have := scanU_range h p (h.length - fr.toNat) fr.toNat; omega
      · rw [show h.length - fr.toNat = 0 by omega]
        simp [scanU]

set_option linter.unusedVariables false in
theorem find_f {h : List ByteArray} (H : Small h) (p : ByteArray) (fr : Int) (back : Bool) (h0 : 0 ≤ fr) (h1 : fr ≤ (h.length : Int) + 1) (k : Nat) (hk : 2 * h.length + 10 ≤ k) : hist_Find.f k h p fr back = some (findS h p.data.toList fr back) := by
  obtain ⟨k, rfl⟩ : ∃ m, k = m + 3 := ⟨k - 3, by omega⟩
  have hl := H.1
  have e1 : wrap64 ((h.length : Int) - 1) = (h.length : Int) - 1 := w64_in _ (by omega)
  unfold hist_Find.f findS
  cases back with
  | true =>
    rw [if_pos rfl, hist_Find.j0, ByteArray.toList_eq]
    by_cases hp : p.data.toList = []
    · rw [if_pos hp, if_pos hp]
    · rw [if_neg hp, if_neg hp, if_pos rfl, if_pos rfl, hist_Find.j1]
      by_cases hf : fr ≥ (h.length : Int)
      · rw [decide_eq_true hf, if_pos rfl, if_pos hf, hist_Find.j2, e1]
        exact find_down H p h.length (by omega) k (by omega)
      · rw [decide_eq_false hf, if_neg (by decide), if_neg hf, hist_Find.j2]
        have := find_down H p (fr + 1).toNat (by omega) k (by omega)
        rwa [show (((fr + 1).toNat : Nat) : Int) - 1 = fr by omega] at this
  | false =>
    rw [if_neg (by decide), hist_Find.j0, ByteArray.toList_eq]
    by_cases hp : p.data.toList = []
    · rw [if_pos hp, if_pos hp]
    · have em : mx fr 0 = ((fr.toNat : Nat) : Int) := by unfold mx; split <;> omega
      rw [if_neg hp, if_neg hp, if_neg (by decide), if_neg (by decide), hist_Find.j1, if_neg (by decide), hist_Find.j2, em]
      by_cases hf : fr.toNat ≤ h.length
      · exact find_up H p (h.length - fr.toNat) fr.toNat (by omega) k (by omega)
      · obtain ⟨k, rfl⟩ : ∃ m, k = m + 2 := ⟨k - 2, by omega⟩
        rw [hist_Find.l0, if_pos (show ((fr.toNat : Nat) : Int) ≥ 0 by omega), decide_eq_false (show ¬ ((fr.toNat : Nat) : Int) < (h.length : Int) by omega), hist_Find.j4, if_neg (by decide), show h.length - fr.toNat = 0 by omega]
        rfl
abbrev SS := Bool × Bool × List Int × Int × Bool
def atS (h : List ByteArray) (i : Int) : Int := mn (mx i 0) (h.length : Int)
def lookS (h : List ByteArray) (on back : Bool) (pat : List Int) (i : Int) (fr : Int) : SS :=
  if fr ≥ 0 then (if findS h (runesBytes pat).data.toList fr back < 0 then (on, back, pat, i, true) else (on, back, pat, findS h (runesBytes pat).data.toList fr back, false)) else (on, back, pat, i, true)
def typeS (h : List ByteArray) (on back : Bool) (pat : List Int) (i : Int) (r : Int) : SS := lookS h on back (pat ++ [r]) (atS h i) (atS h i)
def againS (h : List ByteArray) (on : Bool) (pat : List Int) (i : Int) (fail : Bool) (back : Bool) : SS :=
  if pat = [] then (on, back, pat, atS h i, fail) else lookS h on back pat (atS h i) (if back then atS h i - 1 else atS h i + 1)
theorem atS_range (h : List ByteArray) (i : Int) : 0 ≤ atS h i ∧ atS h i ≤ h.length := by
  unfold atS mn mx; split <;> split <;> omega
theorem near_f (h : List ByteArray) (on back : Bool) (pat : List Int) (i : Int) (fail : Bool) (hp : pat.length ≤ 1000) : search_near.f h on back pat i fail = some (on, back, pat, atS h i, fail) := by
  unfold search_near.f slices_Clone_rune_rune.f
  rw [Option.bind_some, if_pos (by simp only [List.length_nil]; omega), Option.bind_some]
  rfl
set_option linter.unusedVariables false in
theorem sfind_f {h : List ByteArray} (H : Small h) (on back : Bool) (pat : List Int) (i : Int) (fail : Bool) (fr : Int) (h1 : fr ≤ (h.length : Int) + 1) (k : Nat) (hk : 2 * h.length + 10 ≤ k) : search_find.f k h on back pat i fail fr = some (lookS h on back pat i fr) := by
  unfold search_find.f lookS
  by_cases h0 : fr ≥ 0
  · rw [if_pos h0, if_pos h0, find_f H _ fr back h0 h1 k hk, Option.bind_some]
    split
    · rename_i hc
      rw [decide_eq_true hc]
    · rename_i hc
      rw [decide_eq_false hc]
  · rw [if_neg h0, if_neg h0]
theorem type_f {h : List ByteArray} (H : Small h) (on back : Bool) (pat : List Int) (i : Int) (fail : Bool) (r : Int) (hp : pat.length ≤ 1000) (k : Nat) (hk : 2 * h.length + 10 ≤ k) : search_Type.f k h on back pat i fail r = some (typeS h on back pat i r) := by
  have ha := atS_range h i
  unfold search_Type.f
  rw [near_f h on back pat i fail hp, Option.bind_some, if_pos (by show pat.length < 35184372088832; omega)]
  show (search_find.f k h on back (pat ++ [r]) (atS h i) fail (atS h i)).bind _ = _
  rw [sfind_f H on back (pat ++ [r]) (atS h i) fail (atS h i) (by omega) k hk]
  rfl
theorem again_f {h : List ByteArray} (H : Small h) (on b0 : Bool) (pat : List Int) (i : Int) (fail : Bool) (back : Bool) (hp : pat.length ≤ 1000) (k : Nat) (hk : 2 * h.length + 10 ≤ k) : search_Again.f k h on b0 pat i fail back = some (againS h on pat i fail back) := by
  have ha := atS_range h i
  have hl := H.1
  unfold search_Again.f againS
  rw [near_f h on b0 pat i fail hp, Option.bind_some]
  by_cases hn : pat = []
  · subst hn
    rfl
  · have : 0 < pat.length := List.length_pos_iff.2 hn
    rw [if_neg (show ¬ (pat.length : Int) = 0 by omega), if_neg hn]
    cases back with
    | true =>
      rw [if_pos rfl, if_pos rfl]
      show (search_find.f k h on true pat (atS h i) fail (wrap64 (atS h i - 1))).bind _ = _
      rw [w64_in (atS h i - 1) (by omega), sfind_f H on true pat (atS h i) fail (atS h i - 1) (by omega) k hk]
      rfl
    | false =>
      rw [if_neg (by decide), if_neg (by decide)]
      show (search_find.f k h on false pat (atS h i) fail (wrap64 (atS h i + 1))).bind _ = _
      rw [w64_in (atS h i + 1) (by omega), sfind_f H on false pat (atS h i) fail (atS h i + 1) (by omega) k hk]
      rfl
theorem rub_f (on back : Bool) (pat : List Int) (i : Int) (fail : Bool) (hp : pat.length ≤ 1000) : search_Rub.f on back pat i fail = some (on, back, pat.take (pat.length - 1), i, false) := by
  unfold search_Rub.f slices_Clone_rune_rune.f
  rw [Option.bind_some, if_pos (by simp only [List.length_nil]; omega), Option.bind_some, List.nil_append]
  by_cases hn : pat.length = 0
  · rw [if_neg (show ¬ (pat.length : Int) > 0 by omega), List.eq_nil_of_length_eq_zero hn]
    rfl
  · have e : wrap64 ((pat.length : Int) - 1) = (pat.length : Int) - 1 := w64_in _ (by omega)
    rw [if_pos (show (pat.length : Int) > 0 by omega), e, if_pos (show (0 : Int) ≤ (pat.length : Int) - 1 by omega), if_pos (show (pat.length : Int) - 1 ≤ (pat.length : Int) by omega), show ((pat.length : Int) - 1).toNat = pat.length - 1 by omega]
def knownH : List ByteArray := [⟨#[97, 98]⟩, ⟨#[98]⟩]
theorem knownH_small : Small knownH := ⟨by decide, by decide⟩
theorem known_1 : typeS knownH true true [] 2 98 = (true, true, [98], 1, false) := by decide +kernel
theorem known_2 : againS knownH true [98] 1 false true = (true, true, [98], 0, false) := by decide +kernel
theorem known_3 : typeS knownH true true [98] 0 120 = (true, true, [98, 120], 0, true) := by decide +kernel
theorem known_4 : (runesBytes [98]).data.toList = [98] := by decide +kernel
theorem known_t (k : Nat) (hk : 20 ≤ k) : repriselaw16_known.f k = some true := by
  have hk' : 2 * knownH.length + 10 ≤ k := by have : knownH.length = 2 := rfl; omega
  unfold repriselaw16_known.f search_Begin.f
  rw [Option.bind_some, Option.bind_some]
  show (search_Type.f k knownH true true [] 2 false 98).bind _ = _
  rw [type_f knownH_small true true [] 2 false 98 (by decide) k hk', known_1, Option.bind_some]
  show (search_Again.f k knownH true true [98] 1 false true).bind _ = _
  rw [again_f knownH_small true true [98] 1 false true (by decide) k hk', known_2, Option.bind_some]
  show (search_Type.f k knownH true true [98] 0 false 120).bind _ = _
  rw [type_f knownH_small true true [98] 0 false 120 (by decide) k hk', known_3, Option.bind_some]
  show (search_Rub.f true true [98, 120] 0 true).bind _ = _
  rw [rub_f true true [98, 120] 0 true (by decide), Option.bind_some]
  show some ((runesBytes [98]).toList == ([98] : List UInt8)) = some true
  rw [ByteArray.toList_eq, known_4]
  rfl
end Go.Proofs.Ytoaeibhicbgknaa.QSearchPlays
