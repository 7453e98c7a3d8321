/- HistMany: the oldest lines go where there are too many; for every choice of the law. -/
import Derived.Test.YtmffdnedakfigaaDoorQHistManyx2
namespace Go.Proofs.YtmffdnedakfigaaDoor.Pure
open Go.RowKit Go.Proofs.YtmffdnedakfigaaDoor.QHistMany Go.Proofs.YtmffdnedakfigaaDoorW.PrintWords Go.Proofs.YtmffdnedakfigaaDoorW.PrintLast
theorem known_f : repriselaw15_known.f 10100 = some true := by decide +kernel
def eS : ByteArray := ⟨#[]⟩
def aS : ByteArray := ⟨#[97]⟩
def bS : ByteArray := ⟨#[98]⟩
def firstS : ByteArray := ⟨#[102, 105, 114, 115, 116]⟩
def newS : ByteArray := ⟨#[110, 101, 119]⟩
def ab (i : Nat) : ByteArray := if i % 2 = 0 then aS else bS
def abl (n : Nat) : List ByteArray := (List.range n).map ab
def H (n : Nat) : List ByteArray := (abl n).set 0 firstS
theorem abl_len (n : Nat) : (abl n).length = n := by simp [abl]
theorem H_len (n : Nat) : (H n).length = n := by simp [H, abl_len]
theorem rd_ab (i : Nat) : rdOf ByteArray.empty [aS, bS] (Int.tmod (i : Int) 2) = ab i := by
  have : Int.tmod (i : Int) 2 = ((i % 2 : Nat) : Int) := by rw [Int.tmod_eq_emod_of_nonneg (by omega)]; omega
  rw [this]
  unfold ab rdOf
  rw [Int.toNat_natCast]
  rcases Nat.mod_two_eq_zero_or_one i with h | h <;> rw [h] <;> rfl
theorem step_set (i d : Nat) : (abl i ++ List.replicate (d + 1) eS).set i (ab i) = abl (i + 1) ++ List.replicate d eS := by
  have h : i = (abl i).length + 0 := by rw [abl_len]; rfl
  rw [List.replicate_succ]
  conv => lhs; arg 2; rw [h]
  rw [List.set_append_right _ _ (by omega), show (abl i).length + 0 - (abl i).length = 0 by omega, List.set_cons_zero]
  unfold abl
  rw [List.range_succ, List.map_append, List.append_assoc]
  rfl
theorem loop (n : Nat) (hn : n ≤ 10100) (k : Nat) (d : Nat) : ∀ (i : Nat), i + d = n →
    repriselaw15_HistMany.l0 (k + 1 + d) (abl i ++ List.replicate d eS) (i : Int) = repriselaw15_HistMany.l0 (k + 1) (abl n) (n : Int) := by
  induction d with
  | zero =>
    intro i hi
    obtain rfl : i = n := by omega
    rw [List.replicate_zero, List.append_nil]
  | succ d ih =>
    intro i hi
    have hl : (abl i ++ List.replicate (d + 1) eS).length = n := by rw [List.length_append, abl_len, List.length_replicate]; omega
    have q1 : (i : Int) < ((abl i ++ List.replicate (d + 1) eS).length : Int) := by rw [hl]; omega
    have q2 : (0 : Int) ≤ (i : Int) := by omega
    have e2 : Int.tmod (i : Int) 2 = ((i % 2 : Nat) : Int) := by rw [Int.tmod_eq_emod_of_nonneg (by omega)]; omega
    have q3 : 0 ≤ Int.tmod (i : Int) 2 := by rw [e2]; omega
    have q4 : Int.tmod (i : Int) 2 < (([aS, bS] : List ByteArray).length : Int) := by
      rw [e2]
      show ((i % 2 : Nat) : Int) < 2
      omega
    have ei : wrap64 ((i : Int) + 1) = ((i + 1 : Nat) : Int) := by unfold wrap64; omega
    rw [show k + 1 + (d + 1) = (k + 1 + d) + 1 from by omega, repriselaw15_HistMany.l0, if_pos q1, Option.bind_some, if_pos q3]
    erw [if_pos q4]
    rw [if_pos q2, ei, Int.toNat_natCast]
    erw [rd_ab i]
    rw [step_set]
    exact ih (i + 1) (by omega)
theorem H_get (n j : Nat) (hj : j < n) : (H n).getD j ByteArray.empty = if j = 0 then firstS else ab j := by
  unfold H
  rw [List.getD_eq_getElem?_getD, List.getElem?_set, abl_len]
  by_cases h : 0 = j
  · subst h
    rw [if_pos rfl, if_pos rfl, if_pos hj]
    rfl
  · rw [if_neg h, if_neg (by omega)]
    simp [abl, hj]
theorem H_mem (n : Nat) : ∀ s ∈ H n, s = firstS ∨ s = aS ∨ s = bS := by
  intro s hs
  rcases List.mem_or_eq_of_mem_set hs with h | h
  · simp only [abl, List.mem_map] at h
    obtain ⟨i, _, rfl⟩ := h
    unfold ab
    split
    · exact .inr (.inl rfl)
    · exact .inr (.inr rfl)
  · exact .inl h
theorem good (s : ByteArray) (h : s = firstS ∨ s = aS ∨ s = bS) : s.size ≤ 1000 ∧ (!Go.Proofs.YtmffdnedakfigaaDoor.Pre.badS s) = true := by
  rcases h with rfl | rfl | rfl <;> exact ⟨by decide +kernel, by decide +kernel⟩
theorem clip_H (n : Nat) (h0 : 0 < n) (hn : n ≤ 10100) : hist_Clip.f (H n) = some ((H n).drop (n - 10000)) := by
  have hf : (H n).filter (fun s => !Go.Proofs.YtmffdnedakfigaaDoor.Pre.badS s) = H n := List.filter_eq_self.2 (fun s hs => (good s (H_mem n s hs)).2)
  unfold hist_Clip.f Go.Proofs.YtmffdnedakfigaaDoor.Pre.clipF
  rw [hf, H_len, if_pos ⟨h0, by omega, fun s hs => (good s (H_mem n s hs)).1, h0⟩]
theorem clone_f (l : List ByteArray) (h : l.length < 100000) : slices_Clone_string_string.f l = some l := by
  unfold slices_Clone_string_string.f
  rw [Option.bind_some, if_pos (by simp; omega)]
  rfl
theorem last_f (l : List ByteArray) (h : l.length < 100000) : hist_last.f l = some (l.drop (l.length - 10000)) := by
  unfold hist_last.f
  have e1 : wrap64 ((l.length : Int) - 10000) = (l.length : Int) - 10000 := by unfold wrap64; omega
  have e2 : mx ((l.length : Int) - 10000) 0 = ((l.length - 10000 : Nat) : Int) := by unfold mx; split <;> omega
  rw [e1, e2, if_pos (by omega), if_pos (by omega), Int.toNat_natCast]
theorem add_f (k : Nat) (l : List ByteArray) (h0 : 0 < l.length) (h : l.length < 50000) (hm : ∀ s ∈ l, s = firstS ∨ s = aS ∨ s = bS) :
    hist_Add.f (k + 1) l newS = some ((l ++ [newS]).drop (l.length + 1 - 10000)) := by
  unfold hist_Add.f
  rw [clone_f l (by omega), Option.bind_some]
  have t1 : ¬ newS.toList = ([] : List UInt8) := by decide +kernel
  have t2 : hist_Right.f newS = some true := by decide +kernel
  have e1 : wrap64 ((l.length : Int) - 1) = ((l.length - 1 : Nat) : Int) := by unfold wrap64; omega
  have hx : rdOf ByteArray.empty l ((l.length - 1 : Nat) : Int) ∈ l := by
    unfold rdOf
    rw [Int.toNat_natCast, List.getD_eq_getElem?_getD, List.getElem?_eq_getElem (by omega)]
    exact List.getElem_mem _
  have t3 : ((rdOf ByteArray.empty l ((l.length - 1 : Nat) : Int)).toList == newS.toList) = false := by
    rcases hm _ hx with h | h | h <;> rw [h] <;> decide +kernel
  rw [if_neg t1, t2, Option.bind_some, if_pos rfl, if_pos (by omega), e1, if_pos (by omega), if_pos (by omega), t3, hist_Add.j0, if_neg (by decide), if_pos (by omega), last_f _ (by rw [List.length_append]; simp; omega), Option.bind_some, clone_f _ (by rw [List.length_drop, List.length_append]; simp; omega), Option.bind_some]
  rw [List.length_append]
  rfl
theorem dropped (n j m : Nat) (hj : j + m < n) : rdOf ByteArray.empty ((H n).drop m) (j : Int) = if j + m = 0 then firstS else ab (j + m) := by
  unfold rdOf
  rw [Int.toNat_natCast, List.getD_eq_getElem?_getD, List.getElem?_drop, ← List.getD_eq_getElem?_getD, Nat.add_comm m j]
  exact H_get n (j + m) hj
theorem rd_app0 (X : List ByteArray) (m : Nat) (h : m < X.length) : rdOf ByteArray.empty ((X ++ [newS]).drop m) 0 = rdOf ByteArray.empty X (m : Int) := by
  unfold rdOf
  rw [Int.toNat_natCast, List.getD_eq_getElem?_getD, List.getElem?_drop, show (0 : Int).toNat = 0 from rfl, Nat.add_zero, List.getElem?_append_left h, List.getD_eq_getElem?_getD]
theorem first_is : (firstS.toList == ([102, 105, 114, 115, 116] : List UInt8)) = true := by decide +kernel
theorem ab_not (i : Nat) : ((ab i).toList == ([102, 105, 114, 115, 116] : List UInt8)) = false := by
  unfold ab
  split <;> decide +kernel
theorem tail_law (n : Nat) (h0 : 9998 ≤ n) (hn : n ≤ 10001) (k : Nat) : repriselaw15_HistMany.l0 (k + 2) (abl n) (n : Int) = some true := by
  have hc := clip_H n (by omega) (by omega)
  have ht : ((H n).drop (n - 10000)).length = n - (n - 10000) := by rw [List.length_drop, H_len]
  have ha := add_f k ((H n).drop (n - 10000)) (by omega) (by omega) (fun s hs => H_mem n s (List.mem_of_mem_drop hs))
  rw [ht] at ha
  have ha' : hist_Add.f (k + 1) ((H n).drop (n - 10000)) (⟨#[110, 101, 119]⟩ : ByteArray) = some ((((H n).drop (n - 10000)) ++ [newS]).drop (n - (n - 10000) + 1 - 10000)) := ha
  have eh : (abl n).set (0 : Int).toNat (⟨#[102, 105, 114, 115, 116]⟩ : ByteArray) = H n := rfl
  rw [repriselaw15_HistMany.l0, abl_len, if_neg (by omega), if_pos (by omega), eh, hc, Option.bind_some]
  rw [ha', Option.bind_some, ht]
  have hl : ((((H n).drop (n - 10000)) ++ [newS]).drop (n - (n - 10000) + 1 - 10000)).length = n - (n - 10000) + 1 - (n - (n - 10000) + 1 - 10000) := by
    rw [List.length_drop, List.length_append, ht, List.length_singleton]
  rw [hl]
  have m1 : mn (n : Int) 10000 = ((n - (n - 10000) : Nat) : Int) := by unfold mn; split <;> omega
  have e1 : wrap64 (((n - (n - 10000) : Nat) : Int) + 1) = ((n - (n - 10000) + 1 : Nat) : Int) := by unfold wrap64; omega
  have m2 : mn ((n - (n - 10000) + 1 : Nat) : Int) 10000 = ((n - (n - 10000) + 1 - (n - (n - 10000) + 1 - 10000) : Nat) : Int) := by unfold mn; split <;> omega
  have e2 : wrap64 (((n - (n - 10000) + 1 - (n - (n - 10000) + 1 - 10000) : Nat) : Int) - 1) = ((n - (n - 10000) + 1 - (n - (n - 10000) + 1 - 10000) - 1 : Nat) : Int) := by unfold wrap64; omega
  rw [m1, if_pos rfl, e1, m2, if_pos rfl, e2, if_pos (by omega), if_pos (by omega)]
  have hlast : rdOf ByteArray.empty (((((H n).drop (n - 10000)) ++ [newS]).drop (n - (n - 10000) + 1 - 10000))) ((n - (n - 10000) + 1 - (n - (n - 10000) + 1 - 10000) - 1 : Nat) : Int) = newS := by
    unfold rdOf
    rw [Int.toNat_natCast, List.getD_eq_getElem?_getD, List.getElem?_drop, List.getElem?_append_right (by rw [ht]; omega), ht]
    rw [show n - (n - 10000) + 1 - 10000 + (n - (n - 10000) + 1 - (n - (n - 10000) + 1 - 10000) - 1) - (n - (n - 10000)) = 0 by omega]
    rfl
  have hnew : newS.toList = ([110, 101, 119] : List UInt8) := by decide +kernel
  rw [hlast, if_pos hnew, if_pos (by omega)]
  have f1 := dropped n 0 (n - 10000) (by omega)
  have f2 : rdOf ByteArray.empty (((((H n).drop (n - 10000)) ++ [newS]).drop (n - (n - 10000) + 1 - 10000))) 0 = if n - (n - 10000) + 1 - 10000 + (n - 10000) = 0 then firstS else ab (n - (n - 10000) + 1 - 10000 + (n - 10000)) := by
    have hi : n - (n - 10000) + 1 - 10000 < ((H n).drop (n - 10000)).length := by rw [ht]; omega
    rw [rd_app0 _ _ hi]
    exact dropped n (n - (n - 10000) + 1 - 10000) (n - 10000) (by omega)
  rw [show ((0 : Nat) : Int) = 0 from rfl] at f1
  rw [f1, f2]
  by_cases c1 : n = 10001
  · have z1 : ¬ 0 + (n - 10000) = 0 := by omega
    have z2 : ¬ n - (n - 10000) + 1 - 10000 + (n - 10000) = 0 := by omega
    rw [if_neg z1, if_neg z2, ab_not, ab_not, decide_eq_false (show ¬ (n : Int) ≤ 10000 by omega), decide_eq_false (show ¬ (n : Int) < 10000 by omega), if_pos (show (false == false) = true from rfl), if_pos (by omega)]
    rfl
  · by_cases c2 : n = 10000
    · have z1 : 0 + (n - 10000) = 0 := by omega
      have z2 : ¬ n - (n - 10000) + 1 - 10000 + (n - 10000) = 0 := by omega
      rw [if_pos z1, if_neg z2, first_is, ab_not, decide_eq_true (show (n : Int) ≤ 10000 by omega), decide_eq_false (show ¬ (n : Int) < 10000 by omega), if_pos (show (true == true) = true from rfl), if_pos (by omega)]
      rfl
    · have z1 : 0 + (n - 10000) = 0 := by omega
      have z2 : n - (n - 10000) + 1 - 10000 + (n - 10000) = 0 := by omega
      rw [if_pos z1, if_pos z2, first_is, decide_eq_true (show (n : Int) ≤ 10000 by omega), decide_eq_true (show (n : Int) < 10000 by omega), if_pos (show (true == true) = true from rfl), if_pos (by omega)]
      rfl
theorem HistMany : repriselaw15_HistMany.Pure := by
  intro a0 ha
  have hb : 0 ≤ a0 ∧ a0 ≤ 255 := by simpa [Lit.wf, IntKind.min, IntKind.max, IntKind.bits, IntKind.signed] using ha
  have ht : Int.tmod a0 4 = a0 % 4 := Int.tmod_eq_emod_of_nonneg hb.1
  refine ⟨10100, ?_⟩
  obtain ⟨n, hn⟩ : ∃ n : Nat, wrap64 (9998 + wrap64 (a0 % 4)) = (n : Int) ∧ 9998 ≤ n ∧ n ≤ 10001 := ⟨(9998 + a0 % 4).toNat, by unfold wrap64; omega, by omega, by omega⟩
  unfold repriselaw15_HistMany.f
  rw [known_f, Option.bind_some, if_pos rfl, ht, hn.1, if_pos (by omega), Int.toNat_natCast, if_pos (by omega)]
  have e := loop n (by omega) (10100 - n - 1) n 0 (by omega)
  rw [show 10100 - n - 1 + 1 + n = 10100 by omega] at e
  have e0 : abl 0 ++ List.replicate n eS = List.replicate n (⟨#[]⟩ : ByteArray) := rfl
  rw [e0] at e
  rw [show ((0 : Nat) : Int) = 0 from rfl] at e
  rw [e]
  have e2 := tail_law n hn.2.1 hn.2.2 (10100 - n - 2)
  rwa [show 10100 - n - 2 + 2 = 10100 - n - 1 + 1 by omega] at e2
end Go.Proofs.YtmffdnedakfigaaDoor.Pure
