/- hist.Right, hist.Clip's closure, hist.Clip, hist.Place: what each call comes to, by the library's contracts; conditions: no line longer than 1000 bytes, not more than 20000 of them, the tables of unicode/utf8 as they are laid. -/
import Derived.Test.YtmffdnedakfigaaDoorRunesTab
import Derived.Test.YtmffdnedakfigaaDoorHistDel
namespace Go.Proofs.YtmffdnedakfigaaDoor.Pre
open Go.RowKit Go.Lib Go.Sort Go.Proofs.YtmffdnedakfigaaDoorW.PrintWords
def okS (s : ByteArray) : Bool := Lib.validD s.data.toList && decide (Lib.runeCount s ≤ 65536)
def badS (s : ByteArray) : Bool := decide (s.size = 0) || !okS s
theorem below_iter {B : Nat} {w w1 : World} (h : Below B w w1) (hB : B ≤ w1.heap.size) (s : ByteArray) (pos : Nat) : Below B w (w1.iter s pos) := h.alloc hB _
set_option maxHeartbeats 2000000 in
set_option maxRecDepth 100000 in
theorem right_calls (s : ByteArray) (w : World) (hs : s.size < 9223372036854775807) (hT : Sh w) :
    Calls Tryd.prog 9 #[.string s] w fun e w' => e = .returned (.bool (okS s)) ∧ Below w.heap.size w w' := by
  have cV := Tryd.utf8_ValidString s w (by omega) hT
  have cR := fun W => Tryd.utf8_RuneCountInString s W hs
  unfold okS
  generalize Lib.validD s.data.toList = V at cV ⊢
  generalize Lib.runeCount s = R at cR ⊢
  clear hT
  cases V with
  | true =>
    rw [Bool.true_and]
    go_enter Tryd.func9, Tryd.ntmps9
    go_wp2_with (first | (go_at_call 17; refine cV.mono ?_; rintro e w' ⟨rfl, hb⟩) | (go_at_call 16; refine (cR _).mono ?_; rintro e w' ⟨rfl, pos, rfl⟩))
    go_ret
    refine ⟨?_, below_iter hb hb.size s pos⟩
    show Ending.returned (Value.bool (decide ((R : Int) ≤ 65536))) = _
    rw [show decide ((R : Int) ≤ 65536) = decide (R ≤ 65536) from decide_eq_decide.2 (by omega)]
  | false =>
    rw [Bool.false_and]
    go_enter Tryd.func9, Tryd.ntmps9
    go_wp2_with (first | (go_at_call 17; refine cV.mono ?_; rintro e w' ⟨rfl, hb⟩) | (go_at_call 16; refine (cR _).mono ?_; rintro e w' ⟨rfl, pos, rfl⟩))
    go_ret
    exact ⟨rfl, hb⟩
set_option maxHeartbeats 2000000 in
set_option maxRecDepth 100000 in
theorem clip1_calls (s : ByteArray) (w : World) (hs : s.size < 9223372036854775807) (hT : Sh w) :
    Calls Tryd.prog 12 #[.string s] w fun e w' => e = .returned (.bool (badS s)) ∧ Below w.heap.size w w' := by
  have cR := right_calls s w hs hT
  unfold badS
  generalize okS s = V at cR ⊢
  clear hT
  by_cases h0 : s = ⟨#[]⟩
  · subst h0
    clear cR
    go_enter Tryd.func12, Tryd.ntmps12
    go_wp2
    go_ret
    exact ⟨rfl, Below.refl _ _⟩
  · have hsz : ¬ s.size = 0 := fun h => h0 (ByteArray.ext (Array.eq_empty_of_size_eq_zero h))
    have hb0 : s.toList.isEmpty = false := by
      rw [ByteArray.toList_eq]
      cases hl : s.data.toList with
      | nil => exact absurd (show s.size = 0 by rw [Lib.size_eq, hl]; rfl) hsz
      | cons _ _ => rfl
    rw [decide_eq_false hsz, Bool.false_or]
    go_enter Tryd.func12, Tryd.ntmps12
    go_wp2_with (go_at_call 9; refine cR.mono ?_; rintro e w' ⟨rfl, hb⟩)
    go_ret
    exact ⟨by simp, hb⟩
set_option maxHeartbeats 2000000 in
set_option maxRecDepth 100000 in
theorem last_calls (g m cap : Nat) (W : World) (h0 : 0 < m) (hm : m ≤ cap) (hcap : cap ≤ 9223372036854775807) :
    Calls Tryd.prog 13 #[.slice (some ⟨g, 0, none⟩) m cap] W fun e w' => e = .returned (.slice (some ⟨g, m - 10000, none⟩) (m - (m - 10000)) (cap - (m - 10000))) ∧ w' = W := by
  by_cases h : m ≤ 10000
  · have e1 : m - 10000 = 0 := by omega
    have hz : ¬ (0 : Int) < (m : Int) - 10000 := by omega
    have hw : wrap64 ((m : Int) - 10000) = (m : Int) - 10000 := by unfold wrap64; omega
    have hmx : max ((m : Int) - 10000) 0 = 0 := by omega
    rw [e1]
    go_enter Tryd.func13, Tryd.ntmps13
    go_wp2
    go_ret
    exact ⟨rfl, rfl⟩
  · obtain ⟨k, rfl⟩ : ∃ k, m = k + 10000 := ⟨m - 10000, by omega⟩
    have e1 : k + 10000 - 10000 = k := by omega
    have hw : wrap64 (((k + 10000 : Nat) : Int) - 10000) = (k : Int) := by unfold wrap64; omega
    rw [e1]
    go_enter Tryd.func13, Tryd.ntmps13
    go_wp2
    go_ret
    rw [show k + 10000 - k = 10000 by omega]
    exact ⟨rfl, rfl⟩
/-- what hist.Clip tells, of not too many lines, none of them too long -/
def clipF (l : List ByteArray) : Option (List ByteArray) :=
  if 0 < l.length ∧ l.length ≤ 20000 ∧ (∀ s ∈ l, s.size ≤ 1000) ∧ 0 < (l.filter fun s => !badS s).length then
    some ((l.filter fun s => !badS s).drop ((l.filter fun s => !badS s).length - 10000))
  else none
theorem row_of_own {w : World} {base n : Nat} {v : Value} {xs : List ByteArray} (h : w.ownsRow base 9 1 v n (xs.map Value.string)) (hn : 0 < n) :
    ∃ g cap, v = .slice (some ⟨g, 0, none⟩) n cap ∧ base ≤ g ∧ g < w.heap.size ∧ n ≤ cap ∧ cap ≤ maxLen ∧ xs.length = n ∧ Holds Value.string w g 0 xs.toArray := by
  obtain ⟨h1, h2⟩ := h
  have hl : xs.length = n := by simpa using h1
  rcases h2 with ⟨_, h2⟩ | ⟨g, cap, cur, rfl, hg, hh, hc, hm, hs, hr⟩
  · omega
  · refine ⟨g, cap, rfl, hg, by have := Array.getElem?_eq_some_iff.1 hh; exact this.1, hc, hm, hl, fun j hj => ⟨?_, by simp [World.frozen?, hh]⟩⟩
    have hj' : j < xs.length := by simpa using hj
    have e1 : (cur.toList.take (n * 1))[j]? = some (Value.string xs[j]) := by rw [hr]; simp [hj']
    rw [List.getElem?_take, if_pos (by omega), Array.getElem?_toList] at e1
    simp only [World.cell?, hh, Nat.zero_add]
    rw [getElem!_pos _ j hj]
    simpa using e1
set_option maxHeartbeats 4000000 in
set_option maxRecDepth 100000 in
theorem clip_calls (A0 : Option Addr) (c0 : Nat) (l0 : List ByteArray) (r : List ByteArray) (w : World) (hr0 : Kd.C Kd.string w A0 l0.length l0) (_hc0 : l0.length ≤ c0) (h : clipF l0 = some r) (hT : Sh w) :
    Calls Tryd.prog 5 #[.slice A0 l0.length c0] w fun e w' => ∃ v0_ : Value, e = .returned v0_ ∧ Kd.R Kd.string 9 w' w.heap.size (fun _ => True) v0_ r ∧ Below w.heap.size w w' := by
  unfold clipF at h
  split at h
  case isFalse => cases h
  case isTrue hq =>
  obtain ⟨hn, hn2, hsz, hm⟩ := hq
  obtain rfl := Option.some.inj h
  clear h
  -- the row that comes in
  have hrd := Kd.reads_of_C (d := ByteArray.empty) (h1 := fun _ => rfl) hr0
  obtain ⟨_, _, hrd3⟩ := hrd
  obtain ⟨ad, rfl, hcell⟩ := hrd3 hn
  obtain ⟨b, off, spot⟩ := ad
  obtain rfl : spot = none := by
    have := hcell 0 hn
    cases spot with
    | none => rfl
    | some q => simp [Addr.add, World.cell?] at this; split at this <;> simp_all
  have c1 : Calls Tryd.prog 11 #[.slice (some ⟨b, off, none⟩) l0.length c0] w fun e w' => ∃ v', e = .returned v' ∧ w'.ownsRow w.heap.size 9 1 v' l0.length (l0.map Value.string) ∧ Below w.heap.size w w' := by
    refine (Tryd.slices_Clone_string b off l0.length c0 l0 w (Nat.le_refl _) (by omega) (fun j hj => ?_)).mono ?_
    · have := hcell j hj
      simp only [Addr.add] at this
      split at this
      · rename_i hj0; subst hj0; exact this
      · exact this
    · rintro e w' ⟨v', rfl, h1, _, h3⟩
      rw [List.take_of_length_le (Nat.le_refl _)] at h1
      exact ⟨v', rfl, h1, h3⟩
  have hS : Aside (∀ j, j < l0.toArray.size → l0.toArray[j]!.size < 9223372036854775807) := fun j hj => by
    have h1 := hsz (l0.toArray[j]!) (by rw [getElem!_pos _ j hj]; exact Array.getElem_mem_toList hj)
    omega
  have HT : Aside (Sh w) := hT
  clear hT hsz hcell hr0 hrd3
  have hfl : (l0.filter fun s => !badS s).length ≤ l0.length := List.length_filter_le _ _
  obtain ⟨F, hF⟩ : ∃ F, (l0.filter fun s => !badS s) = F := ⟨_, rfl⟩
  rw [hF] at hm hfl ⊢
  go_enter Tryd.func5, Tryd.ntmps5
  go_wp2_with (first
    | (go_at_call 11; with_reducible refine c1.mono ?_; rintro e w1 ⟨v1, rfl, ho1, hb1⟩; obtain ⟨g, cap, rfl, hg1, hg2, hc1, hcm, _, hH1⟩ := row_of_own ho1 hn; clear ho1)
    | (go_at_call 10; refine (show Calls Tryd.prog 10 #[.slice (some ⟨g, 0, none⟩) l0.length cap, .func (.func 12) #[] #[]] w1 _ from del_calls badS l0.toArray g 0 cap w1 hg2 (fun W j hj hb => clip1_calls _ W (hS.out j hj) (Utf8Tabs_below HT.out (hb1.trans (hb.mono hg1)))) (by simpa using (by omega : l0.length ≤ 1000000)) (by simpa using hc1) hH1).mono ?_; rw [show l0.toArray.toList = l0 from rfl, hF]; rintro e w2 ⟨rfl, hb2, hg3, hcell2⟩)
    | (go_at_call 13; refine (last_calls g F.length cap w2 hm (by omega) (by unfold maxLen at hcm; omega)).mono ?_; rintro e w3 ⟨rfl, rfl⟩)
    | (go_at_call 11; refine (Tryd.slices_Clone_string g (F.length - 10000) (F.length - (F.length - 10000)) (cap - (F.length - 10000)) (F.drop (F.length - 10000)) w3 (by rw [List.length_drop]; omega) (by omega) (fun j hj => by rw [List.length_drop] at hj; have := hcell2 (F.length - 10000 + j) (by omega); rw [Nat.zero_add] at this; rw [this]; congr 2; rw [getElem!_pos _ _ (by omega), List.getD_eq_getElem?_getD, List.getElem?_drop, List.getElem?_eq_getElem (by omega)]; rfl)).mono ?_; rintro e w4 ⟨v4, rfl, ho4, _, hb4⟩))
  go_ret
  have hb12 := Nat.le_trans hb1.size hb2.size
  have hb24 : Below w.heap.size w w4 := (hb1.trans (hb2.mono hg1)).trans (hb4.mono hb12)
  refine ⟨v4, rfl, Kd.R_of_own ?_ (fun _ _ => trivial), hb24⟩
  rw [List.take_of_length_le (by rw [List.length_drop]; exact Nat.le_refl _)] at ho4
  rw [List.length_drop]
  exact own_weaken ho4 hb12
/-- what hist.Place tells, of a pattern of one byte -/
def placeF (s pat : ByteArray) : Option Int :=
  if s.size ≤ 1000 ∧ pat.size = 1 then
    (let i := Lib.indexByte s.data.toList (pat.data.toList.headD 0); if i < 0 then some (-1) else some (Lib.runeCount (s.extract 0 i.toNat) : Int))
  else none
theorem indexByte_lt (l : List UInt8) (c : UInt8) : Lib.indexByte l c ≤ l.length := by
  induction l with
  | nil => simp [Lib.indexByte]
  | cons b l ih =>
    simp only [Lib.indexByte, List.length_cons]
    split
    · omega
    · split
      · omega
      · omega
set_option maxHeartbeats 4000000 in
set_option maxRecDepth 100000 in
theorem place_calls (s pat : ByteArray) (r : Int) (w : World) (h : placeF s pat = some r) :
    Calls Tryd.prog 8 #[.string s, .string pat] w fun e w' => e = .returned (.int .i64 r) ∧ Below w.heap.size w w' := by
  unfold placeF at h
  split at h
  case isFalse => cases h
  case isTrue hq =>
  obtain ⟨hs, hp⟩ := hq
  obtain ⟨c, rfl⟩ : ∃ c, pat = ⟨#[c]⟩ := by
    obtain ⟨⟨l⟩⟩ := pat
    match l, hp with
    | [c], _ => exact ⟨c, rfl⟩
  have c1 := Tryd.strings_Index_one s c w
  simp only [List.headD] at h
  have hle := indexByte_lt s.data.toList c
  rw [← Lib.size_eq] at hle
  obtain ⟨I, hI⟩ : ∃ I, Lib.indexByte s.data.toList c = I := ⟨_, rfl⟩
  simp only [hI] at h
  rw [hI] at c1 hle
  by_cases hI0 : I < 0
  · rw [if_pos hI0] at h
    obtain rfl := Option.some.inj h
    go_enter Tryd.func8, Tryd.ntmps8
    go_wp2_with (go_at_call 15; refine c1.mono ?_; rintro e w1 ⟨rfl, rfl⟩)
    go_ret
    exact ⟨rfl, Below.refl _ _⟩
  · rw [if_neg hI0] at h
    obtain rfl := Option.some.inj h
    clear h hI
    obtain ⟨n, rfl⟩ : ∃ n : Nat, I = n := ⟨I.toNat, by omega⟩
    go_enter Tryd.func8, Tryd.ntmps8
    go_wp2_with (first | (go_at_call 15; refine c1.mono ?_; rintro e w1 ⟨rfl, rfl⟩) | (go_at_call 16; refine (Tryd.utf8_RuneCountInString (s.extract 0 n) _ (by rw [ByteArray.size_extract]; omega)).mono ?_; rintro e w2 ⟨rfl, pos, rfl⟩))
    go_ret
    exact ⟨rfl, below_iter (Below.refl _ _) (Nat.le_refl _) _ _⟩
end Go.Proofs.YtmffdnedakfigaaDoor.Pre
