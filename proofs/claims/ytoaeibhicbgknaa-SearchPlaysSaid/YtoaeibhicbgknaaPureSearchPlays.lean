import Derived.Test.YtoaeibhicbgknaaSearchAtSearchPlays
namespace Go.Proofs.Ytoaeibhicbgknaa.QSearchPlays
open Go.RowKit Go.Proofs.YtoaeibhicbgknaaW.PrintWords Go.Proofs.YtoaeibhicbgknaaW.PrintLast Go.Proofs.YtoaeibhicbgknaaW.PrintMore
def runes8 : List Int := [102, 111, 98, 97, 32, 120, 233, 28450]
def formB (r : Int) : Bool := match repriseref1_Form.f 5 r with
  | some l => decide (Lib.bytesOf l = (Utf8.encode r).data.toList) && decide (l.length ≤ 4)
  | none => false
theorem formB_all : runes8.all formB = true := by decide +kernel
theorem form_one (r : Int) (hr : r ∈ runes8) (k : Nat) (hk : 5 ≤ k) : ∃ l, repriseref1_Form.f k r = some l ∧ Lib.bytesOf l = (Utf8.encode r).data.toList ∧ l.length ≤ 4 := by
  have h := List.all_eq_true.1 formB_all r hr
  unfold formB at h
  cases ht : repriseref1_Form.f 5 r with
  | none => rw [ht] at h; cases h
  | some t =>
    rw [ht] at h
    simp only [Bool.and_eq_true, decide_eq_true_eq] at h
    exact ⟨t, at_rounds (repriseref1_Form.mono r) hk ht, h.1, h.2⟩
theorem runesBytes_snoc (xs : List Int) (r : Int) : (runesBytes (xs ++ [r])).data.toList = (runesBytes xs).data.toList ++ (Utf8.encode r).data.toList := by
  unfold runesBytes
  rw [List.foldl_append]
  show (List.foldl (fun r n => r ++ Utf8.encode n) ByteArray.empty xs ++ Utf8.encode r).data.toList = _
  rw [ByteArray.data_append, Array.toList_append]
theorem text_l0 (x : List Int) (hl : x.length ≤ 1000) (hx : ∀ r ∈ x, r ∈ runes8) (d : Nat) : ∀ (k i : Nat) (acc : List Int), i + d = x.length → d + 10 < k → acc.length ≤ 4 * i → Lib.bytesOf acc = (runesBytes (x.take i)).data.toList →
    ∃ t, repriseref1_Text.l0 k x acc (i : Int) = some t ∧ t.data.toList = (runesBytes x).data.toList ∧ t.size ≤ 4 * x.length := by
  induction d with
  | zero =>
    intro k i acc hi hk ha he
    obtain ⟨k, rfl⟩ : ∃ m, k = m + 1 := ⟨k - 1, by omega⟩
    rw [show i = x.length by omega, List.take_length] at he
    have e := Lib.strOfNums_toList acc
    rw [ByteArray.toList_eq] at e
    refine ⟨strOfNums acc, ?_, e.trans he, ?_⟩
    · rw [repriseref1_Text.l0, if_neg (by omega)]
    · have : (strOfNums acc).size = (strOfNums acc).data.toList.length := rfl
      rw [this, e]
      unfold Lib.bytesOf
      rw [List.length_map]
      omega
  | succ d ih =>
    intro k i acc hi hk ha he
    obtain ⟨k, rfl⟩ : ∃ m, k = m + 1 := ⟨k - 1, by omega⟩
    have hlt : i < x.length := by omega
    have hxr : rd x (i : Int) = x[i] := by
      unfold rd
      rw [show ((i : Int)).toNat = i by omega, List.getD_eq_getElem?_getD, List.getElem?_eq_getElem hlt]
      rfl
    have hm : rd x (i : Int) ∈ runes8 := by rw [hxr]; exact hx _ (List.getElem_mem hlt)
    obtain ⟨f, hf, hfe, hfl⟩ := form_one _ hm k (by omega)
    have e2 : wrap64 ((i : Int) + 1) = ((i + 1 : Nat) : Int) := (w64_in _ (by omega)).trans (by omega)
    rw [repriseref1_Text.l0, if_pos (show (i : Int) < (x.length : Int) by omega), if_pos (show (0 : Int) ≤ (i : Int) by omega), hf, Option.bind_some, if_pos (show acc.length + f.length < 140737488355328 by omega), e2]
    refine ih k (i + 1) _ (by omega) (by omega) (by rw [List.length_append]; omega) ?_
    have eb : Lib.bytesOf (acc ++ f) = Lib.bytesOf acc ++ Lib.bytesOf f := by unfold Lib.bytesOf; rw [List.map_append]
    rw [eb, he, hfe, hxr, ← runesBytes_snoc, List.take_append_getElem hlt]
theorem text_f (x : List Int) (hl : x.length ≤ 1000) (hx : ∀ r ∈ x, r ∈ runes8) (k : Nat) (hk : x.length + 10 < k) : ∃ t, repriseref1_Text.f k x = some t ∧ t.data.toList = (runesBytes x).data.toList ∧ t.size ≤ 4 * x.length :=
  text_l0 x hl hx x.length k 0 [] (by omega) hk (by simp) rfl
theorem ref_down {h : List ByteArray} (H : Small h) (p : ByteArray) (hp : p.size ≤ 1000000) : ∀ n : Nat, n ≤ h.length → ∀ k, n + 200 ≤ k → repriseref11_Find.l0 k h p ((n : Int) - 1) = some (scanD h p.data.toList n) := by
  intro n
  induction n with
  | zero =>
    intro _ k hk
    obtain ⟨k, rfl⟩ : ∃ m, k = m + 1 := ⟨k - 1, by omega⟩
    rw [repriseref11_Find.l0, if_neg (by omega)]
    rfl
  | succ n ih =>
    intro hn k hk
    obtain ⟨k, rfl⟩ : ∃ m, k = m + 1 := ⟨k - 1, by omega⟩
    have hl := H.1
    have hs := H.get n
    have e1 : ((n + 1 : Nat) : Int) - 1 = (n : Int) := by omega
    have e2 : wrap64 ((n : Int) - 1) = (n : Int) - 1 := w64_in _ (by omega)
    have e3 : ((n : Int)).toNat = n := by omega
    rw [e1, repriseref11_Find.l0, if_pos (show (n : Int) ≥ 0 by omega), if_pos (show (0 : Int) ≤ (n : Int) by omega), if_pos (show (n : Int) < (h.length : Int) by omega)]
    unfold rdOf
    rw [e3, at_f _ p (by omega) hp k (by omega), Option.bind_some, e2, scanD]
    unfold Lib.contains
    by_cases hz : Lib.index (h.getD n ByteArray.empty).data.toList p.data.toList ≥ 0
    · rw [if_pos hz, if_pos (decide_eq_true hz)]
    · rw [if_neg hz, if_neg (by rw [decide_eq_true_eq]; exact hz)]
      exact ih (by omega) k (by omega)
theorem ref_up {h : List ByteArray} (H : Small h) (p : ByteArray) (hp : p.size ≤ 1000000) : ∀ n i : Nat, i + n = h.length → ∀ k, n + 200 ≤ k → repriseref11_Find.l1 k h p (i : Int) = some (scanU h p.data.toList n i) := by
  intro n
  induction n with
  | zero =>
    intro i hi k hk
    obtain ⟨k, rfl⟩ : ∃ m, k = m + 1 := ⟨k - 1, by omega⟩
    rw [repriseref11_Find.l1, if_neg (by omega)]
    rfl
  | succ n ih =>
    intro i hi k hk
    obtain ⟨k, rfl⟩ : ∃ m, k = m + 1 := ⟨k - 1, by omega⟩
    have hl := H.1
    have hs := H.get i
    have e2 : wrap64 ((i : Int) + 1) = ((i + 1 : Nat) : Int) := (w64_in _ (by omega)).trans (by omega)
    have e3 : ((i : Int)).toNat = i := by omega
    rw [repriseref11_Find.l1, if_pos (show (i : Int) < (h.length : Int) by omega), if_pos (show (0 : Int) ≤ (i : Int) by omega)]
    unfold rdOf
    rw [e3, at_f _ p (by omega) hp k (by omega), Option.bind_some, e2, scanU]
    unfold Lib.contains
    by_cases hz : Lib.index (h.getD i ByteArray.empty).data.toList p.data.toList ≥ 0
    · rw [if_pos hz, if_pos (decide_eq_true hz)]
    · rw [if_neg hz, if_neg (by rw [decide_eq_true_eq]; exact hz)]
      exact ih (i + 1) (by omega) k (by omega)
theorem rfind_f {h : List ByteArray} (H : Small h) (p : ByteArray) (hp : p.size ≤ 1000000) (fr : Int) (back : Bool) (h0 : -1 ≤ fr) (k : Nat) (hk : h.length + 210 ≤ k) : repriseref11_Find.f k h p fr back = some (findS h p.data.toList fr back) := by
  have hl := H.1
  have e1 : wrap64 ((h.length : Int) - 1) = (h.length : Int) - 1 := w64_in _ (by omega)
  unfold repriseref11_Find.f findS
  rw [ByteArray.toList_eq, e1]
  by_cases hp0 : p.data.toList = []
  · rw [if_pos hp0, if_pos hp0]
  · rw [if_neg hp0, if_neg hp0]
    cases back with
    | true =>
      rw [if_pos rfl, if_pos rfl]
      by_cases hf : fr ≥ (h.length : Int)
      · rw [if_pos hf, show mn fr ((h.length : Int) - 1) = (h.length : Int) - 1 by unfold mn; rw [if_pos (by omega)]]
        exact ref_down H p hp h.length (by omega) k (by omega)
      · rw [if_neg hf, show mn fr ((h.length : Int) - 1) = (((fr + 1).toNat : Nat) : Int) - 1 by unfold mn; rw [if_neg (by omega)]; omega]
        exact ref_down H p hp (fr + 1).toNat (by omega) k (by omega)
    | false =>
      rw [if_neg (by decide), if_neg (by decide), show mx fr 0 = ((fr.toNat : Nat) : Int) by unfold mx; split <;> omega]
      by_cases hf : fr.toNat ≤ h.length
      · exact ref_up H p hp (h.length - fr.toNat) fr.toNat (by omega) k (by omega)
      · obtain ⟨k, rfl⟩ : ∃ m, k = m + 1 := ⟨k - 1, by omega⟩
        rw [repriseref11_Find.l1, if_neg (by omega), show h.length - fr.toNat = 0 by omega]
        rfl
theorem look_f {h : List ByteArray} (H : Small h) (on back : Bool) (pat : List Int) (hl : pat.length ≤ 1000) (hx : ∀ r ∈ pat, r ∈ runes8) (i : Int) (fail : Bool) (fr : Int) (h0 : -1 ≤ fr) (h1 : fr ≥ 0 ∨ back = true) (k : Nat) (hk : h.length + 1210 ≤ k) :
    repriseref11_look.f k h on back pat i fail fr = some (lookS h on back pat i fr) := by
  obtain ⟨t, ht, hte, hts⟩ := text_f pat hl hx k (by omega)
  unfold repriseref11_look.f lookS
  rw [ht, Option.bind_some, rfind_f H t (by omega) fr back h0 k (by omega), Option.bind_some, hte]
  by_cases hf : fr ≥ 0
  · rw [if_pos hf]
    by_cases hz : findS h (runesBytes pat).data.toList fr back < 0
    · rw [if_neg (by omega), if_pos hz, decide_eq_true hz]
    · rw [if_pos (by omega), if_neg hz, decide_eq_false hz]
  · rw [if_neg hf]
    have hb : back = true := h1.resolve_left hf
    have ez : findS h (runesBytes pat).data.toList fr back = -1 := by
      unfold findS
      rw [hb, show (fr + 1).toNat = 0 by omega, if_pos rfl, if_neg (show ¬ fr ≥ (h.length : Int) by omega)]
      split <;> rfl
    rw [ez]
    rfl
theorem rtype_f {h : List ByteArray} (H : Small h) (on back : Bool) (pat : List Int) (i : Int) (fail : Bool) (r : Int) (hp : pat.length ≤ 900) (hx : ∀ r ∈ pat, r ∈ runes8) (hr : r ∈ runes8) (k : Nat) (hk : h.length + 1210 ≤ k) : repriseref11_Type.f k h on back pat i fail r = some (typeS h on back pat i r) := by
  have ha := atS_range h i
  have hx2 : ∀ q ∈ pat ++ [r], q ∈ runes8 := by
    intro q hq
    rcases List.mem_append.1 hq with hq | hq
    · exact hx q hq
    · rw [List.mem_singleton.1 hq]; exact hr
  unfold repriseref11_Type.f repriseref11_within.f repriseref11_own.f
  rw [Option.bind_some, if_pos (by simp only [List.length_nil]; omega), Option.bind_some, List.nil_append, if_pos (show pat.length < 35184372088832 by omega)]
  show (repriseref11_look.f k h on back (pat ++ [r]) (atS h i) fail (atS h i)).bind _ = _
  rw [look_f H on back (pat ++ [r]) (by rw [List.length_append, List.length_singleton]; omega) hx2 (atS h i) fail (atS h i) (by omega) (.inl (by omega)) k hk]
  rfl
theorem ragain_f {h : List ByteArray} (H : Small h) (on b0 : Bool) (pat : List Int) (i : Int) (fail : Bool) (back : Bool) (hp : pat.length ≤ 900) (hx : ∀ r ∈ pat, r ∈ runes8) (k : Nat) (hk : h.length + 1210 ≤ k) : repriseref11_Again.f k h on b0 pat i fail back = some (againS h on pat i fail back) := by
  have ha := atS_range h i
  have hl := H.1
  unfold repriseref11_Again.f repriseref11_within.f againS
  rw [Option.bind_some]
  by_cases hn : pat = []
  · subst hn
    rfl
  · have : 0 < pat.length := List.length_pos_iff.2 hn
    rw [if_neg (show ¬ (pat.length : Int) = 0 by omega), if_neg hn]
    cases back with
    | true =>
      rw [if_pos rfl, if_pos rfl]
      show (repriseref11_look.f k h on true pat (atS h i) fail (wrap64 (atS h i - 1))).bind _ = _
      rw [w64_in (atS h i - 1) (by omega), look_f H on true pat (by omega) hx (atS h i) fail (atS h i - 1) (by omega) (.inr rfl) k hk]
      rfl
    | false =>
      rw [if_neg (by decide), if_neg (by decide)]
      show (repriseref11_look.f k h on false pat (atS h i) fail (wrap64 (atS h i + 1))).bind _ = _
      rw [w64_in (atS h i + 1) (by omega), look_f H on false pat (by omega) hx (atS h i) fail (atS h i + 1) (by omega) (.inl (by omega)) k hk]
      rfl
theorem rrub_f (on back : Bool) (pat : List Int) (i : Int) (fail : Bool) (hp : pat.length ≤ 1000) : repriseref11_Rub.f on back pat i fail = some (on, back, pat.take (pat.length - 1), i, false) := by
  have e : wrap64 ((pat.length : Int) - 1) = (pat.length : Int) - 1 := w64_in _ (by omega)
  have em : mx ((pat.length : Int) - 1) 0 = ((pat.length - 1 : Nat) : Int) := by unfold mx; split <;> omega
  unfold repriseref11_Rub.f repriseref11_own.f
  rw [e, em, if_pos (by omega), if_pos (by omega), Int.toNat_natCast, if_pos (by rw [List.length_take]; simp only [List.length_nil]; omega), Option.bind_some, List.nil_append]
theorem same_l0 (l : List Int) (hl : l.length ≤ 1000) (d : Nat) : ∀ (k i : Nat), i + d = l.length → d < k → reprisehelp_Runes.l0 k l l (i : Int) = some true := by
  induction d with
  | zero =>
    intro k i hi hk
    obtain ⟨k, rfl⟩ : ∃ m, k = m + 1 := ⟨k - 1, by omega⟩
    rw [reprisehelp_Runes.l0, if_neg (by omega)]
  | succ d ih =>
    intro k i hi hk
    obtain ⟨k, rfl⟩ : ∃ m, k = m + 1 := ⟨k - 1, by omega⟩
    have e2 : wrap64 ((i : Int) + 1) = ((i + 1 : Nat) : Int) := (w64_in _ (by omega)).trans (by omega)
    rw [reprisehelp_Runes.l0, if_pos (show (i : Int) < (l.length : Int) by omega), if_pos (show (0 : Int) ≤ (i : Int) by omega), if_pos (show (i : Int) < (l.length : Int) by omega), if_pos rfl, e2]
    exact ih k (i + 1) (by omega) (by omega)
theorem same_search (s : SS) (hl : s.2.2.1.length ≤ 1000) (k : Nat) (hk : s.2.2.1.length < k) : reprisehelp_Search.f k s.1 s.2.1 s.2.2.1 s.2.2.2.1 s.2.2.2.2 s.1 s.2.1 s.2.2.1 s.2.2.2.1 s.2.2.2.2 = some true := by
  unfold reprisehelp_Search.f reprisehelp_Runes.f
  have e0 : reprisehelp_Runes.l0 k s.2.2.1 s.2.2.1 0 = some true := same_l0 _ hl s.2.2.1.length k 0 (by omega) hk
  rw [if_pos (by simp), if_pos (by simp), if_pos rfl, e0, Option.bind_some, if_pos rfl, if_pos rfl]
  simp
theorem lookS_pat (h : List ByteArray) (on back : Bool) (pat : List Int) (i fr : Int) : (lookS h on back pat i fr).2.2.1 = pat := by
  unfold lookS
  split
  · split <;> rfl
  · rfl
theorem typeS_pat (h : List ByteArray) (on back : Bool) (pat : List Int) (i r : Int) : (typeS h on back pat i r).2.2.1 = pat ++ [r] := lookS_pat _ _ _ _ _ _
theorem againS_pat (h : List ByteArray) (on back : Bool) (pat : List Int) (i : Int) (fail : Bool) : (againS h on pat i fail back).2.2.1 = pat := by
  unfold againS
  split
  · rfl
  · exact lookS_pat _ _ _ _ _ _
theorem rd8_mem (z : Int) (h0 : 0 ≤ z) (h1 : z < 8) : rd [102, 111, 98, 97, 32, 120, 233, 28450] z ∈ runes8 := by
  have : z = 0 ∨ z = 1 ∨ z = 2 ∨ z = 3 ∨ z = 4 ∨ z = 5 ∨ z = 6 ∨ z = 7 := by omega
  rcases this with rfl | rfl | rfl | rfl | rfl | rfl | rfl | rfl <;> decide
theorem plays_j2 {h : List ByteArray} (H : Small h) (hh : h.length ≤ 30) (x1 : List Int) (hx : x1.length ≤ 40) (i : Nat) (hi : i < x1.length) (k : Nat) (hk : 2000 < k)
    (ih : ∀ s : SS, s.2.2.1.length ≤ i + 1 → (∀ r ∈ s.2.2.1, r ∈ runes8) → repriselaw16_SearchPlays.l0 k x1 h ((i + 1 : Nat) : Int) s.1 s.2.1 s.2.2.1 s.2.2.2.1 s.2.2.2.2 s.1 s.2.1 s.2.2.1 s.2.2.2.1 s.2.2.2.2 = some true)
    (c : Int) (b : Bool) (on back : Bool) (pat : List Int) (at_ : Int) (f : Bool) (hp : pat.length ≤ i) (hr : ∀ r ∈ pat, r ∈ runes8) :
    repriselaw16_SearchPlays.j2 (k + 1) x1 h (i : Int) c b on back pat at_ f on back pat at_ f = some true := by
  have e2 : wrap64 ((i : Int) + 1) = ((i + 1 : Nat) : Int) := (w64_in _ (by omega)).trans (by omega)
  have go : ∀ s : SS, s.2.2.1.length ≤ i + 1 → (∀ r ∈ s.2.2.1, r ∈ runes8) → ((reprisehelp_Search.f k s.1 s.2.1 s.2.2.1 s.2.2.2.1 s.2.2.2.2 s.1 s.2.1 s.2.2.1 s.2.2.2.1 s.2.2.2.2).bind fun t => (if t = true then (repriselaw16_SearchPlays.l0 k x1 h (wrap64 ((i : Int) + 1)) s.1 s.2.1 s.2.2.1 s.2.2.2.1 s.2.2.2.2 s.1 s.2.1 s.2.2.1 s.2.2.2.1 s.2.2.2.2) else (none))) = some true := by
    intro s h1 h2
    rw [same_search s (by omega) k (by omega), Option.bind_some, if_pos rfl, e2]
    exact ih s h1 h2
  rw [repriselaw16_SearchPlays.j2]
  cases b with
  | true =>
    have hz0 : 0 ≤ (Int.tdiv (rd x1 (i : Int)) 6 % 256) % 8 := by omega
    have hz1 : (Int.tdiv (rd x1 (i : Int)) 6 % 256) % 8 < 8 := by omega
    have hm := rd8_mem _ hz0 hz1
    rw [if_pos rfl, Option.bind_some, if_pos (show (0 : Int) ≤ (i : Int) by omega), if_pos (show (i : Int) < (x1.length : Int) by omega), if_pos hz0, if_pos (show (Int.tdiv (rd x1 (i : Int)) 6 % 256) % 8 < (([102, 111, 98, 97, 32, 120, 233, 28450] : List Int).length : Int) from hz1)]
    generalize rd [102, 111, 98, 97, 32, 120, 233, 28450] ((Int.tdiv (rd x1 (i : Int)) 6 % 256) % 8) = r at hm ⊢
    rw [type_f H on back pat at_ f r (by omega) k (by omega), Option.bind_some, rtype_f H on back pat at_ f r (by omega) hr hm k (by omega), Option.bind_some]
    refine go _ ?_ ?_
    · rw [typeS_pat, List.length_append, List.length_singleton]; omega
    · rw [typeS_pat]
      intro q hq
      rcases List.mem_append.1 hq with hq | hq
      · exact hr q hq
      · rw [List.mem_singleton.1 hq]; exact hm
  | false =>
    rw [if_neg (by decide)]
    by_cases h3 : c = 3
    · rw [if_pos h3, again_f H on back pat at_ f true (by omega) k (by omega), Option.bind_some, ragain_f H on back pat at_ f true (by omega) hr k (by omega), Option.bind_some]
      exact go _ (by rw [againS_pat]; omega) (by rw [againS_pat]; exact hr)
    · rw [if_neg h3]
      by_cases h4 : c = 4
      · rw [if_pos h4, again_f H on back pat at_ f false (by omega) k (by omega), Option.bind_some, ragain_f H on back pat at_ f false (by omega) hr k (by omega), Option.bind_some]
        exact go _ (by rw [againS_pat]; omega) (by rw [againS_pat]; exact hr)
      · rw [if_neg h4, rub_f on back pat at_ f (by omega), Option.bind_some, rrub_f on back pat at_ f (by omega), Option.bind_some]
        exact go (on, back, pat.take (pat.length - 1), at_, false) (by show (pat.take (pat.length - 1)).length ≤ i + 1; rw [List.length_take]; omega) (fun q hq => hr q (List.mem_of_mem_take hq))
theorem plays_l0 {h : List ByteArray} (H : Small h) (hh : h.length ≤ 30) (x1 : List Int) (hx : x1.length ≤ 40) (d : Nat) : ∀ (k i : Nat) (s : SS), i + d = x1.length → 2 * d + 2010 < k → s.2.2.1.length ≤ i → (∀ r ∈ s.2.2.1, r ∈ runes8) →
    repriselaw16_SearchPlays.l0 k x1 h (i : Int) s.1 s.2.1 s.2.2.1 s.2.2.2.1 s.2.2.2.2 s.1 s.2.1 s.2.2.1 s.2.2.2.1 s.2.2.2.2 = some true := by
  induction d with
  | zero =>
    intro k i s hi hk hp hr
    obtain ⟨k, rfl⟩ : ∃ m, k = m + 1 := ⟨k - 1, by omega⟩
    rw [repriselaw16_SearchPlays.l0, if_neg (by omega)]
  | succ d ih =>
    intro k i s hi hk hp hr
    obtain ⟨k, rfl⟩ : ∃ m, k = m + 2 := ⟨k - 2, by omega⟩
    have step := fun (c : Int) (b : Bool) => plays_j2 H hh x1 hx i (by omega) k (by omega) (fun s h1 h2 => ih k (i + 1) s (by omega) (by omega) h1 h2) c b s.1 s.2.1 s.2.2.1 s.2.2.2.1 s.2.2.2.2 hp hr
    rw [repriselaw16_SearchPlays.l0, if_pos (show (i : Int) < (x1.length : Int) by omega), if_pos (show (0 : Int) ≤ (i : Int) by omega)]
    split
    · exact step _ _
    · split
      · exact step _ _
      · exact step _ _
end Go.Proofs.Ytoaeibhicbgknaa.QSearchPlays
namespace Go.Proofs.Ytoaeibhicbgknaa.Pure
open Go.RowKit Go.Proofs.Ytoaeibhicbgknaa.QSearchPlays Go.Proofs.YtoaeibhicbgknaaW.PrintWords Go.Proofs.YtoaeibhicbgknaaW.PrintLast
theorem nonneg_u8 {l : List Int} (hl : ∀ x ∈ l, (Lit.int .u8 x).wf = true) : ∀ x ∈ l, 0 ≤ x := by
  intro x hx
  have := hl x hx
  simp [Lit.wf, IntKind.min, IntKind.max, IntKind.signed, IntKind.bits] at this
  omega
theorem SearchPlays : repriselaw16_SearchPlays.Pure := by
  intro l x1 back _ _ hl _ _ _
  refine ⟨5000, ?_⟩
  unfold repriselaw16_SearchPlays.f
  rw [known_t 5000 (by decide), Option.bind_some, if_pos rfl]
  by_cases hlen : (l.length : Int) > 30
  · rw [if_pos hlen, repriselaw16_SearchPlays.j0, if_pos rfl]
  · rw [if_neg hlen, repriselaw16_SearchPlays.j0]
    by_cases hlen1 : (x1.length : Int) > 40
    · rw [decide_eq_true hlen1, if_pos rfl]
    · rw [decide_eq_false hlen1, if_neg (by decide)]
      obtain ⟨h0, hh0, hlen0, hn0⟩ := hist_f l (by omega) (nonneg_u8 hl) 4999 (by omega)
      obtain ⟨h, hh, hlenh, hn⟩ := clip_f h0 (by omega) hn0 4999 (by omega)
      have H : Small h := small_of (by omega) hn
      rw [hh0, Option.bind_some, hh, Option.bind_some]
      unfold search_Begin.f repriseref11_Begin.f
      rw [Option.bind_some, Option.bind_some]
      exact plays_l0 H (by omega) x1 (by omega) x1.length 4999 0 (true, back, [], (h.length : Int), false) (by omega) (by omega) (Nat.zero_le _) (fun r hr => by cases hr)
end Go.Proofs.Ytoaeibhicbgknaa.Pure
