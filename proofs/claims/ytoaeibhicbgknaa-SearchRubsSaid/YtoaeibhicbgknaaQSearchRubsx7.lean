/- Lean functions for the Go functions that the law reaches, and proofs that each call comes to just what its Lean function tells; no condition. (Written by a program of this session.) -/
import Derived.Test.YtoaeibhicbgknaaQSearchRubsx0
import Derived.Test.YtoaeibhicbgknaaQSearchRubsx1
import Derived.Test.YtoaeibhicbgknaaQSearchRubsx2
import Derived.Test.YtoaeibhicbgknaaQSearchRubsx5
import Derived.Test.YtoaeibhicbgknaaQSearchRubsx6
namespace Go.Proofs.Ytoaeibhicbgknaa.QSearchRubs
open Go.RowKit Go.Proofs.YtoaeibhicbgknaaW.PrintWords Go.Proofs.YtoaeibhicbgknaaW.PrintLast Go.Proofs.YtoaeibhicbgknaaW.PrintMore
attribute [local go_sem] max2_int min2_int max_two min_two max_three min_three max_four min_four   -- for this text's walks alone
set_option linter.unusedVariables false
set_option linter.unusedSimpArgs false

/-! ### repriselaw16_SearchRubs: function 5 -/
mutual
def repriselaw16_SearchRubs.j0 : Nat → List Int → List Int → Bool → Bool → Option (Bool)
  | 0, _, _, _, _ => none
  | k + 1, x0, x1, x2, x23 => if x23 = true then (some true) else ((repriseseat_Hist.f k x0).bind fun t329 => ((repriseref11_Clip.f k t329).bind fun t332 => ((search_Begin.f t332 x2).bind fun bt335 => (repriselaw16_SearchRubs.l0 k x1 x2 t332 0 bt335.1 bt335.2.1 bt335.2.2.1 bt335.2.2.2.1 bt335.2.2.2.2))))
def repriselaw16_SearchRubs.l0 : Nat → List Int → Bool → List ByteArray → Int → Bool → Bool → List Int → Int → Bool → Option (Bool)
  | 0, _, _, _, _, _, _, _, _, _ => none
  | k + 1, x1, x2, x7, x9, x343000, x343001, x343002, x343003, x343004 => if x9 < (x1.length : Int) then (if 0 ≤ x9 then ((repriseseat_Rune.f (rd x1 x9)).bind fun t344 => ((search_Type.f k x7 x343000 x343001 x343002 x343003 x343004 t344).bind fun bt345 => (repriselaw16_SearchRubs.l0 k x1 x2 x7 (wrap64 (x9 + 1)) bt345.1 bt345.2.1 bt345.2.2.1 bt345.2.2.2.1 bt345.2.2.2.2))) else (none)) else ((search_Type.f k x7 x343000 x343001 x343002 x343003 x343004 113).bind fun bt352 => ((search_Rub.f bt352.1 bt352.2.1 bt352.2.2.1 bt352.2.2.2.1 bt352.2.2.2.2).bind fun bt359 => (repriselaw16_SearchRubs.l1 k x1 x2 (x343002.length : Int) 0 x343000 x343001 x343002 x343003 x343004 bt359.1 bt359.2.1 bt359.2.2.1 bt359.2.2.2.1 bt359.2.2.2.2 x343000 x343001 x343002 x343003 x343004)))
def repriselaw16_SearchRubs.l1 : Nat → List Int → Bool → Int → Int → Bool → Bool → List Int → Int → Bool → Bool → Bool → List Int → Int → Bool → Bool → Bool → List Int → Int → Bool → Option (Bool)
  | 0, _, _, _, _, _, _, _, _, _, _, _, _, _, _, _, _, _, _, _ => none
  | k + 1, x1, x2, x10, x13, x343000, x343001, x343002, x343003, x343004, x367000, x367001, x367002, x367003, x367004, x368000, x368001, x368002, x368003, x368004 => if x13 < (wrap64 ((x1.length : Int) + 2)) then ((search_Rub.f x368000 x368001 x368002 x368003 x368004).bind fun bt368 => (repriselaw16_SearchRubs.l1 k x1 x2 x10 (wrap64 (x13 + 1)) x343000 x343001 x343002 x343003 x343004 x367000 x367001 x367002 x367003 x367004 bt368.1 bt368.2.1 bt368.2.2.1 bt368.2.2.2.1 bt368.2.2.2.2)) else (if x10 = (x1.length : Int) then ((reprisehelp_Runes.f k x367002 x343002).bind fun t375 => (if t375 = true then (if x367004 = true then (none) else (if (x367001 == x2) = true then (if (x368002.length : Int) = 0 then (if x368000 = true then (some (x368003 == x343003)) else (none)) else (none)) else (none))) else (none))) else (none))
end
def repriselaw16_SearchRubs.f (k : Nat) (l0 : List Int) (l1 : List Int) (a2 : Bool) : Option (Bool) := (repriselaw16_known.f k).bind fun t328 => (if t328 = true then (if (l0.length : Int) > 30 then (repriselaw16_SearchRubs.j0 k l0 l1 a2 true) else (repriselaw16_SearchRubs.j0 k l0 l1 a2 (decide ((l1.length : Int) > 20)))) else (none))
theorem repriselaw16_SearchRubs.mono_l : ∀ k, (∀ y0 y1 y2 y3, LeO (repriselaw16_SearchRubs.j0 k y0 y1 y2 y3) (repriselaw16_SearchRubs.j0 (k + 1) y0 y1 y2 y3)) ∧ (∀ y0 y1 y2 y3 y4 y5 y6 y7 y8, LeO (repriselaw16_SearchRubs.l0 k y0 y1 y2 y3 y4 y5 y6 y7 y8) (repriselaw16_SearchRubs.l0 (k + 1) y0 y1 y2 y3 y4 y5 y6 y7 y8)) ∧ (∀ y0 y1 y2 y3 y4 y5 y6 y7 y8 y9 y10 y11 y12 y13 y14 y15 y16 y17 y18, LeO (repriselaw16_SearchRubs.l1 k y0 y1 y2 y3 y4 y5 y6 y7 y8 y9 y10 y11 y12 y13 y14 y15 y16 y17 y18) (repriselaw16_SearchRubs.l1 (k + 1) y0 y1 y2 y3 y4 y5 y6 y7 y8 y9 y10 y11 y12 y13 y14 y15 y16 y17 y18))
  | 0 => ⟨fun _ _ _ _ r h => by simp [repriselaw16_SearchRubs.j0] at h, fun _ _ _ _ _ _ _ _ _ r h => by simp [repriselaw16_SearchRubs.l0] at h, fun _ _ _ _ _ _ _ _ _ _ _ _ _ _ _ _ _ _ _ r h => by simp [repriselaw16_SearchRubs.l1] at h⟩
  | k + 1 => by
    obtain ⟨ih0, ih1, ih2⟩ := repriselaw16_SearchRubs.mono_l k
    refine ⟨?_, ?_, ?_⟩
    · intro y0 y1 y2 y3
      unfold repriselaw16_SearchRubs.j0
      repeat' first
      | (with_reducible exact ih0 _ _ _ _)
      | (with_reducible exact ih1 _ _ _ _ _ _ _ _ _)
      | (with_reducible exact ih2 _ _ _ _ _ _ _ _ _ _ _ _ _ _ _ _ _ _ _)
      | (with_reducible exact reprisehelp_Runes.mono _ _ _)
      | (with_reducible exact repriselaw16_known.mono _)
      | (with_reducible exact repriseref11_Clip.mono _ _)
      | (with_reducible exact repriseseat_Hist.mono _ _)
      | (with_reducible exact search_Type.mono _ _ _ _ _ _ _ _)
      | (with_reducible exact LeO.refl _)
      | (with_reducible exact LeO.none _)
      | (with_reducible refine LeO.ite ?_ ?_)
      | (with_reducible refine LeO.bind ?_ (fun _ => ?_))
      | exact ih0 _ _ _ _
      | exact ih1 _ _ _ _ _ _ _ _ _
      | exact ih2 _ _ _ _ _ _ _ _ _ _ _ _ _ _ _ _ _ _ _
      | exact reprisehelp_Runes.mono _ _ _
      | exact repriselaw16_known.mono _
      | exact repriseref11_Clip.mono _ _
      | exact repriseseat_Hist.mono _ _
      | exact search_Type.mono _ _ _ _ _ _ _ _
      | exact LeO.none _
      | refine LeO.ite ?_ ?_
      | refine LeO.bind ?_ (fun _ => ?_)
    · intro y0 y1 y2 y3 y4 y5 y6 y7 y8
      unfold repriselaw16_SearchRubs.l0
      repeat' first
      | (with_reducible exact ih0 _ _ _ _)
      | (with_reducible exact ih1 _ _ _ _ _ _ _ _ _)
      | (with_reducible exact ih2 _ _ _ _ _ _ _ _ _ _ _ _ _ _ _ _ _ _ _)
      | (with_reducible exact reprisehelp_Runes.mono _ _ _)
      | (with_reducible exact repriselaw16_known.mono _)
      | (with_reducible exact repriseref11_Clip.mono _ _)
      | (with_reducible exact repriseseat_Hist.mono _ _)
      | (with_reducible exact search_Type.mono _ _ _ _ _ _ _ _)
      | (with_reducible exact LeO.refl _)
      | (with_reducible exact LeO.none _)
      | (with_reducible refine LeO.ite ?_ ?_)
      | (with_reducible refine LeO.bind ?_ (fun _ => ?_))
      | exact ih0 _ _ _ _
      | exact ih1 _ _ _ _ _ _ _ _ _
      | exact ih2 _ _ _ _ _ _ _ _ _ _ _ _ _ _ _ _ _ _ _
      | exact reprisehelp_Runes.mono _ _ _
      | exact repriselaw16_known.mono _
      | exact repriseref11_Clip.mono _ _
      | exact repriseseat_Hist.mono _ _
      | exact search_Type.mono _ _ _ _ _ _ _ _
      | exact LeO.none _
      | refine LeO.ite ?_ ?_
      | refine LeO.bind ?_ (fun _ => ?_)
    · intro y0 y1 y2 y3 y4 y5 y6 y7 y8 y9 y10 y11 y12 y13 y14 y15 y16 y17 y18
      unfold repriselaw16_SearchRubs.l1
      repeat' first
      | (with_reducible exact ih0 _ _ _ _)
      | (with_reducible exact ih1 _ _ _ _ _ _ _ _ _)
      | (with_reducible exact ih2 _ _ _ _ _ _ _ _ _ _ _ _ _ _ _ _ _ _ _)
      | (with_reducible exact reprisehelp_Runes.mono _ _ _)
      | (with_reducible exact repriselaw16_known.mono _)
      | (with_reducible exact repriseref11_Clip.mono _ _)
      | (with_reducible exact repriseseat_Hist.mono _ _)
      | (with_reducible exact search_Type.mono _ _ _ _ _ _ _ _)
      | (with_reducible exact LeO.refl _)
      | (with_reducible exact LeO.none _)
      | (with_reducible refine LeO.ite ?_ ?_)
      | (with_reducible refine LeO.bind ?_ (fun _ => ?_))
      | exact ih0 _ _ _ _
      | exact ih1 _ _ _ _ _ _ _ _ _
      | exact ih2 _ _ _ _ _ _ _ _ _ _ _ _ _ _ _ _ _ _ _
      | exact reprisehelp_Runes.mono _ _ _
      | exact repriselaw16_known.mono _
      | exact repriseref11_Clip.mono _ _
      | exact repriseseat_Hist.mono _ _
      | exact search_Type.mono _ _ _ _ _ _ _ _
      | exact LeO.none _
      | refine LeO.ite ?_ ?_
      | refine LeO.bind ?_ (fun _ => ?_)
theorem repriselaw16_SearchRubs.mono : ∀ a0 a1 a2 k, LeO (repriselaw16_SearchRubs.f k a0 a1 a2) (repriselaw16_SearchRubs.f (k + 1) a0 a1 a2) := by
  intro a0 a1 a2 k
  obtain ⟨ih0, ih1, ih2⟩ := repriselaw16_SearchRubs.mono_l k
  unfold repriselaw16_SearchRubs.f
  repeat' first
      | (with_reducible exact ih0 _ _ _ _)
      | (with_reducible exact ih1 _ _ _ _ _ _ _ _ _)
      | (with_reducible exact ih2 _ _ _ _ _ _ _ _ _ _ _ _ _ _ _ _ _ _ _)
      | (with_reducible exact reprisehelp_Runes.mono _ _ _)
      | (with_reducible exact repriselaw16_known.mono _)
      | (with_reducible exact repriseref11_Clip.mono _ _)
      | (with_reducible exact repriseseat_Hist.mono _ _)
      | (with_reducible exact search_Type.mono _ _ _ _ _ _ _ _)
      | (with_reducible exact LeO.refl _)
      | (with_reducible exact LeO.none _)
      | (with_reducible refine LeO.ite ?_ ?_)
      | (with_reducible refine LeO.bind ?_ (fun _ => ?_))
      | exact ih0 _ _ _ _
      | exact ih1 _ _ _ _ _ _ _ _ _
      | exact ih2 _ _ _ _ _ _ _ _ _ _ _ _ _ _ _ _ _ _ _
      | exact reprisehelp_Runes.mono _ _ _
      | exact repriselaw16_known.mono _
      | exact repriseref11_Clip.mono _ _
      | exact repriseseat_Hist.mono _ _
      | exact search_Type.mono _ _ _ _ _ _ _ _
      | exact LeO.none _
      | refine LeO.ite ?_ ?_
      | refine LeO.bind ?_ (fun _ => ?_)
def repriselaw16_SearchRubs.T10 : Bool × List (List Nat × List Nat) := (true, [([], []), ([], []), ([], []), ([], []), ([2, 3], [2, 3]), ([4], [4]), ([5], [5]), ([0, 1, 6, 6], [0, 1, 6]), ([7, 7, 0, 1, 2, 3, 4, 5, 6, 7], [7])])
def repriselaw16_SearchRubs.B10 : List Nat := [0, 0, 0, 0, 12, 28, 60, 127, 255]
theorem repriselaw16_SearchRubs.tab10 : rtab .any (opsOf Try.f5 10) = repriselaw16_SearchRubs.T10 := by kernel_rfl
theorem repriselaw16_SearchRubs.bits10 : waitsOk repriselaw16_SearchRubs.T10.2 repriselaw16_SearchRubs.B10 = true := by kernel_rfl
set_option maxHeartbeats 8000000 in
set_option maxRecDepth 100000 in
theorem repriselaw16_SearchRubs.calls (k : Nat) (A0 : Option Addr) (c0 : Nat) (l0 : List Int) (A1 : Option Addr) (c1 : Nat) (l1 : List Int) (a2 : Bool) (r : Bool) (w : World) (hr0 : Kd.C (Kd.int .u8) w A0 l0.length l0) (hc0 : l0.length ≤ c0) (hr1 : Kd.C (Kd.int .u8) w A1 l1.length l1) (hc1 : l1.length ≤ c1) (h : repriselaw16_SearchRubs.f k l0 l1 a2 = some r) (hsh : Sh0 w := by first | assumption | (with_reducible repeat (first | apply Sh0.drewN | apply Sh0.drew | apply Sh0.alloc | (refine Sh0.set (by assumption) (by assumption) ?_))) <;> first | assumption | exact Sh0.of (by assumption) (by assumption)) :
    Calls Try.prog 5 #[.slice A0 l0.length c0, .slice A1 l1.length c1, .bool a2] w fun e w' => e = .returned (.bool r) ∧ Below w.heap.size w w' := by
  have hu29 := Try.underlying29
  have HR0 := Aside0.mk hr0
  have HC0 := Aside0.mk hc0
  clear hr0 hc0
  have HR1 := Aside0.mk hr1
  have HC1 := Aside0.mk hc1
  clear hr1 hc1
  have HB := Aside0.mk (Below.refl w.heap.size w)
  have H : ((repriselaw16_known.f k).bind fun t328 => (if t328 = true then (if (l0.length : Int) > 30 then (repriselaw16_SearchRubs.j0 k l0 l1 a2 true) else (repriselaw16_SearchRubs.j0 k l0 l1 a2 (decide ((l1.length : Int) > 20)))) else (none))) = some r := h
  clear h
  replace H := Option.bind_eq_some_iff.mp H
  obtain ⟨t328, A40, H⟩ := H
  replace H : (if t328 = true then (if (l0.length : Int) > 30 then (repriselaw16_SearchRubs.j0 k l0 l1 a2 true) else (repriselaw16_SearchRubs.j0 k l0 l1 a2 (decide ((l1.length : Int) > 20)))) else (none)) = some r := H
  have A4 := Aside0.mk A40
  clear A40
  by_cases c5 : t328 = true
  · subst c5
    have H1 : (if (l0.length : Int) > 30 then (repriselaw16_SearchRubs.j0 k l0 l1 a2 true) else (repriselaw16_SearchRubs.j0 k l0 l1 a2 (decide ((l1.length : Int) > 20)))) = some r := by rw [if_pos rfl] at H; exact H
    clear H
    have H := H1
    clear H1
    have HC6 := Aside0.mk H
    clear H
    go_enter Try.func5, Try.ntmps5
    go_upto_region 3 with (first | ((with_reducible refine gate_callee (f := 6) rfl ?_); refine goesL_ (some 14) rfl rfl Try.func6 (by kernel_rfl) rfl #[] rfl (by (try simp only [List.map_toArray, List.map_cons, List.map_nil]); first | done | rfl | (simp only [List.length_drop, List.length_take]; rfl)) ?_; (with_reducible refine (repriselaw16_known.calls k  true _ A4.out).mono ?_); rintro e w7 ⟨rfl, hb⟩; refine ⟨_, rfl, ?_⟩; have n0_ := Aside0.mk (below_step (by repeat (first | (with_reducible first | exact HB.out | apply below_alloc | apply pw_below_drewN | apply below_drew1) | exact HB.out)) hb); clear HB; have HB := n0_; clear n0_; (try clear hb); (try clear hb2); (try clear hk); (try clear hi)))
    (try simp only [Act.put, List.setIfInBounds_toArray, List.set_cons_zero, List.set_cons_succ])
    go_cut [23] (fun v23 wc => ∃ (kq : Nat) (x23_5 : Bool), v23 = .bool x23_5 ∧ Aside0 (repriselaw16_SearchRubs.j0 kq l0 l1 a2 x23_5 = some r) ∧ Aside0 (kq ≤ k) ∧ Aside0 (Below w.heap.size w wc))
    case first =>
      have H := HC6.out
      clear HC6
      by_cases c8 : (l0.length : Int) > 30
      · rw [if_pos c8] at H
        have c8b0 : decide (30 < (l0.length : Int)) = true := decide_eq_true c8
        have c8b1 : decide (30 < l0.length) = true := decide_eq_true (by omega)
        clear c8
        (first | rw [c8b0] | (simp only [i64_w, i32_w]; rw [c8b0]) | skip)
        have H' := Aside0.mk H
        clear H
        go_wp2
        go_meet
        case rel => exact ⟨_, (true), (by first | rfl | (simp; done) | (simp [*]; done)), H', ⟨by first | omega | exact Nat.le_refl _⟩, ⟨by repeat (first | (with_reducible first | exact HB.out | apply below_alloc | apply pw_below_drewN | apply below_drew1) | exact HB.out)⟩⟩
      · rw [if_neg c8] at H
        have c8b0 : decide (30 < (l0.length : Int)) = false := decide_eq_false c8
        have c8b1 : decide (30 < l0.length) = false := decide_eq_false (by omega)
        clear c8
        (first | rw [c8b0] | (simp only [i64_w, i32_w]; rw [c8b0]) | skip)
        have H' := Aside0.mk H
        clear H
        go_wp2
        go_meet
        case rel => exact ⟨_, (decide ((l1.length : Int) > 20)), (by first | rfl | (simp; done) | (simp [*]; done)), H', ⟨by first | omega | exact Nat.le_refl _⟩, ⟨by repeat (first | (with_reducible first | exact HB.out | apply below_alloc | apply pw_below_drewN | apply below_drew1) | exact HB.out)⟩⟩
    case rest =>
      clear HC6
      try clear c1
      try clear p2
      try clear c5
      try clear c6
      try clear c8
      try clear c8b0
      try clear c8b1
      obtain ⟨kq, x23_5, rfl, HA, HJ5, HB⟩ := hcut
      cases kq with
      | zero => exact absurd HA.out (by simp [repriselaw16_SearchRubs.j0])
      | succ kj5 =>
        have H := HA.out
        clear HA
        simp only [repriselaw16_SearchRubs.j0] at H
        by_cases c9 : x23_5 = true
        · subst c9
          have H1 : (some true) = some r := by rw [if_pos rfl] at H; exact H
          clear H
          have H := H1
          clear H1
          obtain rfl := Option.some.inj H
          go_wp2
          go_ret
          exact ⟨by first | rfl | (simp [errW_none, errW_some] <;> rfl) | (simp [*, errW_none, errW_some] <;> rfl), by repeat (first | (with_reducible first | exact HB.out | apply below_alloc | apply pw_below_drewN | apply below_drew1) | exact HB.out)⟩
        · replace c9 := Bool.eq_false_iff.mpr c9
          subst c9
          have H1 : ((repriseseat_Hist.f kj5 l0).bind fun t329 => ((repriseref11_Clip.f kj5 t329).bind fun t332 => ((search_Begin.f t332 a2).bind fun bt335 => (repriselaw16_SearchRubs.l0 kj5 l1 a2 t332 0 bt335.1 bt335.2.1 bt335.2.2.1 bt335.2.2.2.1 bt335.2.2.2.2)))) = some r := by rw [if_neg (show ¬ (false = true) by decide)] at H; exact H
          clear H
          have H := H1
          clear H1
          replace H := Option.bind_eq_some_iff.mp H
          obtain ⟨t329, A100, H⟩ := H
          replace H : ((repriseref11_Clip.f kj5 t329).bind fun t332 => ((search_Begin.f t332 a2).bind fun bt335 => (repriselaw16_SearchRubs.l0 kj5 l1 a2 t332 0 bt335.1 bt335.2.1 bt335.2.2.1 bt335.2.2.2.1 bt335.2.2.2.2))) = some r := H
          have A10 := Aside0.mk A100
          clear A100
          replace H := Option.bind_eq_some_iff.mp H
          obtain ⟨t332, A110, H⟩ := H
          replace H : ((search_Begin.f t332 a2).bind fun bt335 => (repriselaw16_SearchRubs.l0 kj5 l1 a2 t332 0 bt335.1 bt335.2.1 bt335.2.2.1 bt335.2.2.2.1 bt335.2.2.2.2)) = some r := H
          have A11 := Aside0.mk A110
          clear A110
          replace H := Option.bind_eq_some_iff.mp H
          obtain ⟨⟨t335, t336, t337, t340, t341⟩, A120, H⟩ := H
          replace H : (repriselaw16_SearchRubs.l0 kj5 l1 a2 t332 0 t335 t336 t337 t340 t341) = some r := H
          have A12 := Aside0.mk A120
          clear A120
          have H' := Aside0.mk H
          clear H
          go_wp2_with (first | ((with_reducible refine gate_callee (f := 8) rfl ?_); refine goesL_ (some 25) rfl rfl Try.func8 (by kernel_rfl) rfl #[.slice A0 l0.length c0] rfl (by (try simp only [List.map_toArray, List.map_cons, List.map_nil]); first | done | rfl | (simp only [List.length_drop, List.length_take]; rfl)) ?_; (with_reducible refine (repriseseat_Hist.calls kj5 _ _ l0 t329 _ ?side1 ?side2 A10.out).mono ?_); (case side1 => repeat (first | exact (Kd.C_below HR0.out HB.out) | (with_reducible refine Kd.C_alloc ?_ _) | (with_reducible refine Kd.C_drewN ?_ _) | (with_reducible refine Kd.C_drew ?_))); (case side2 => exact HC0.out); rintro e w13 ⟨v330, rfl, ho0, hb⟩; refine ⟨_, rfl, ?_⟩; have n0_ := Aside0.mk (Kd.R_lower ho0 (below_size (by repeat (first | (with_reducible first | exact HB.out | apply below_alloc | apply pw_below_drewN | apply below_drew1) | exact HB.out)))); have n1_ := Aside0.mk (below_step (by repeat (first | (with_reducible first | exact HB.out | apply below_alloc | apply pw_below_drewN | apply below_drew1) | exact HB.out)) hb); clear HB; have HO331 := n0_; have HB := n1_; clear n0_ n1_; (try clear hb); (try clear hb2); (try clear hk); (try clear hi); (try clear ho0); obtain ⟨Ao14, co14, eo14⟩ := Kd.R_slice HO331.out; subst eo14) | ((with_reducible refine gate_callee (f := 7) rfl ?_); refine goesL_ (some 26) rfl rfl Try.func7 (by kernel_rfl) rfl #[.slice Ao14 t329.length co14] rfl (by (try simp only [List.map_toArray, List.map_cons, List.map_nil]); first | done | rfl | (simp only [List.length_drop, List.length_take]; rfl)) ?_; (with_reducible refine (repriseref11_Clip.calls kj5 _ _ t329 t332 _ ?side1 ?side2 A11.out).mono ?_); (case side1 => repeat (first | exact (Kd.R_reads' HO331.out).2.2 | (with_reducible refine Kd.C_alloc ?_ _) | (with_reducible refine Kd.C_drewN ?_ _) | (with_reducible refine Kd.C_drew ?_))); (case side2 => exact (Kd.R_reads' HO331.out).2.1); rintro e w15 ⟨v333, rfl, ho0, hb⟩; refine ⟨_, rfl, ?_⟩; have n0_ := Aside0.mk (Kd.R_elder' (by (with_reducible repeat (first | apply Kd.R_alloc | apply Kd.R_drewN | apply Kd.R_drew)); exact HO331.out) (Kd.Q_base ho0) hb); have n1_ := Aside0.mk (Kd.Q_lower (Kd.Q_new' ho0 (Kd.R_lt (by (with_reducible repeat (first | apply Kd.R_alloc | apply Kd.R_drewN | apply Kd.R_drew)); exact HO331.out))) (below_size (by repeat (first | (with_reducible first | exact HB.out | apply below_alloc | apply pw_below_drewN | apply below_drew1) | exact HB.out)))); have n2_ := Aside0.mk (below_step (by repeat (first | (with_reducible first | exact HB.out | apply below_alloc | apply pw_below_drewN | apply below_drew1) | exact HB.out)) hb); clear HO331; clear HB; have HO331 := n0_; have HO334 := n1_; have HB := n2_; clear n0_ n1_ n2_; (try clear hb); (try clear hb2); (try clear hk); (try clear hi); (try clear ho0); obtain ⟨Ao16, co16, eo16, _⟩ := Kd.Q_slice HO334.out; subst eo16) | ((with_reducible refine gate_callee (f := 9) rfl ?_); refine goesL_ (some 29) rfl rfl Try.func9 (by kernel_rfl) rfl #[.slice Ao16 t332.length co16, .bool a2] rfl (by (try simp only [List.map_toArray, List.map_cons, List.map_nil]); first | done | rfl | (simp only [List.length_drop, List.length_take]; rfl)) ?_; (with_reducible refine (search_Begin.calls _ _ t332 a2 t335 t336 t337 t340 t341 _ ?side1 ?side2 A12.out).mono ?_); (case side1 => repeat (first | exact (Kd.Q_reads' HO334.out).2.2 | (with_reducible refine Kd.C_alloc ?_ _) | (with_reducible refine Kd.C_drewN ?_ _) | (with_reducible refine Kd.C_drew ?_))); (case side2 => exact (Kd.Q_reads' HO334.out).2.1); rintro e w17 ⟨v338, rfl, ho0, hb⟩; refine ⟨_, rfl, ?_⟩; have n0_ := Aside0.mk (Kd.R_below (by (with_reducible repeat (first | apply Kd.R_alloc | apply Kd.R_drewN | apply Kd.R_drew)); exact HO331.out) hb); have n1_ := Aside0.mk (Kd.Q_below (by (with_reducible repeat (first | apply Kd.Q_alloc | apply Kd.Q_drewN | apply Kd.Q_drew)); exact HO334.out) hb); have n2_ := Aside0.mk (Kd.R_lower ho0 (below_size (by repeat (first | (with_reducible first | exact HB.out | apply below_alloc | apply pw_below_drewN | apply below_drew1) | exact HB.out)))); have n3_ := Aside0.mk (below_step (by repeat (first | (with_reducible first | exact HB.out | apply below_alloc | apply pw_below_drewN | apply below_drew1) | exact HB.out)) hb); clear HO331; clear HO334; clear HB; have HO331 := n0_; have HO334 := n1_; have HO339 := n2_; have HB := n3_; clear n0_ n1_ n2_ n3_; (try clear hb); (try clear hb2); (try clear hk); (try clear hi); (try clear ho0)) | ((with_reducible refine gate_dst (N := 8) rfl ?_); (try (refine gate_guard (by rfl) ?_; dsimp only)); refine box_event ?hg (N := 8) ?hd (cs := #[.bool false, .bool false, .slice none 0 0, .int .i64 0, .bool false]) (t := 29) ?hr ?_; (case hd => rfl); (case hg => rfl); (case hr => first | (go_simp; done) | (go_simp; rfl)); intro gb342 hg w18 hbox hb; have n0_ := Aside0.mk (Kd.R_below (by (with_reducible repeat (first | apply Kd.R_alloc | apply Kd.R_drewN | apply Kd.R_drew)); exact HO331.out) hb); have n1_ := Aside0.mk (Kd.Q_below (by (with_reducible repeat (first | apply Kd.Q_alloc | apply Kd.Q_drewN | apply Kd.Q_drew)); exact HO334.out) hb); have n2_ := Aside0.mk (Kd.R_below (by (with_reducible repeat (first | apply Kd.R_alloc | apply Kd.R_drewN | apply Kd.R_drew)); exact HO339.out) hb); have n3_ := Aside0.mk (below_step (by repeat (first | (with_reducible first | exact HB.out | apply below_alloc | apply pw_below_drewN | apply below_drew1) | exact HB.out)) hb); have n4_ := Aside0.mk (hbox); have n5_ := Aside0.mk ((by rw [hg]; exact (below_size (by repeat (first | (with_reducible first | exact HB.out | apply below_alloc | apply pw_below_drewN | apply below_drew1) | exact HB.out))) : w.heap.size ≤ gb342)); have n6_ := Aside0.mk ((by rw [hg]; exact (below_size (by repeat (first | (with_reducible first | exact HB.out | apply below_alloc | apply pw_below_drewN | apply below_drew1) | exact HB.out))) : w.heap.size ≤ gb342)); clear HO331; clear HO334; clear HO339; clear HB; have HO331 := n0_; have HO334 := n1_; have HO339 := n2_; have HB := n3_; have BK342 := n4_; have GW342 := n5_; have GE342 := n6_; clear n0_ n1_ n2_ n3_ n4_ n5_ n6_; clear hb hbox hg; have hcz19_0 : w18.cell? ⟨gb342, 0, none⟩ = some (.bool false) := (blk_cell BK342.out 0).trans rfl; have hcz19_1 : w18.cell? ⟨gb342, 1, none⟩ = some (.bool false) := (blk_cell BK342.out 1).trans rfl; have hcz19_2 : w18.cell? ⟨gb342, 2, none⟩ = some (.slice none 0 0) := (blk_cell BK342.out 2).trans rfl; have hcz19_3 : w18.cell? ⟨gb342, 3, none⟩ = some (.int .i64 0) := (blk_cell BK342.out 3).trans rfl; have hcz19_4 : w18.cell? ⟨gb342, 4, none⟩ = some (.bool false) := (blk_cell BK342.out 4).trans rfl; have hfz19_0 := blk_frozen BK342.out 0; have hfz19_1 := blk_frozen BK342.out 1; have hfz19_2 := blk_frozen BK342.out 2; have hfz19_3 := blk_frozen BK342.out 3; have hfz19_4 := blk_frozen BK342.out 4; obtain ⟨Ao20, co20, eo20⟩ := Kd.R_slice HO339.out; subst eo20))
          go_loopg [9] kj5 (fun kq v9 w' => ∃ (x9_2 : Int) (x343000_2 : Bool) (x343001_2 : Bool) (x343002_2 : List Int) (x343003_2 : Int) (x343004_2 : Bool) (u343002 : Value), v9 = .int .i64 x9_2 ∧ Aside0 (repriselaw16_SearchRubs.l0 kq l1 a2 t332 x9_2 x343000_2 x343001_2 x343002_2 x343003_2 x343004_2 = some r) ∧ Aside0 (kq ≤ kj5) ∧ Aside0 (Kd.Q Kd.string 9 w' w.heap.size (fun _ => True) (.slice Ao16 t332.length co16) t332) ∧ Aside0 (Kd.R (Kd.int .i32) 21 w' w.heap.size (fun _ => True) u343002 x343002_2) ∧ Aside0 (w'.heap[gb342]? = some (.cells #[.bool x343000_2, .bool x343001_2, u343002, .int .i64 x343003_2, .bool x343004_2] 29 (0, 0))) ∧ Aside0 (Below w.heap.size w w'))
          case atStart => exact ⟨(0), (t335), (t336), (t337), (t340), (t341), (.slice Ao20 t337.length co20), (by first | rfl | (simp; done) | (simp [*]; done)), H', ⟨Nat.le_refl _⟩, ⟨by (with_reducible repeat (first | apply Kd.Q_alloc | apply Kd.Q_drewN | apply Kd.Q_drew)); exact Kd.Q_mono (Kd.Q_far (p := ⟨gb342, 4, none⟩) (Kd.Q_far (p := ⟨gb342, 3, none⟩) (Kd.Q_far (p := ⟨gb342, 2, none⟩) (Kd.Q_far (p := ⟨gb342, 1, none⟩) (Kd.Q_far (p := ⟨gb342, 0, none⟩) (Kd.Q_types HO334.out BK342.out (by decide)) (fun _ hk => hk.2) (.bool t335)) (fun _ hk => hk.2) (.bool t336)) (fun _ hk => hk.2) (.slice Ao20 t337.length co20)) (fun _ hk => hk.2) (.int .i64 t340)) (fun _ hk => hk.2) (.bool t341)) (fun _ hk => trivial)⟩, ⟨by (with_reducible repeat (first | apply Kd.R_alloc | apply Kd.R_drewN | apply Kd.R_drew)); exact Kd.R_mono (Kd.R_far (p := ⟨gb342, 4, none⟩) (Kd.R_far (p := ⟨gb342, 3, none⟩) (Kd.R_far (p := ⟨gb342, 2, none⟩) (Kd.R_far (p := ⟨gb342, 1, none⟩) (Kd.R_far (p := ⟨gb342, 0, none⟩) (Kd.R_types HO339.out BK342.out (by decide)) (fun _ hk => hk.2) (.bool t335)) (fun _ hk => hk.2) (.bool t336)) (fun _ hk => hk.2) (.slice Ao20 t337.length co20)) (fun _ hk => hk.2) (.int .i64 t340)) (fun _ hk => hk.2) (.bool t341)) (fun _ hk => trivial)⟩, ⟨by (with_reducible repeat (first | refine blk_drewN ?_ _ | refine blk_drew ?_ | refine blk_alloc ?_ _)); refine blk_put (cs := #[.bool t335, .bool t336, .slice Ao20 t337.length co20, .int .i64 t340, .bool false]) ?_ 4 _ rfl; (with_reducible repeat (first | refine blk_drewN ?_ _ | refine blk_drew ?_ | refine blk_alloc ?_ _)); refine blk_put (cs := #[.bool t335, .bool t336, .slice Ao20 t337.length co20, .int .i64 0, .bool false]) ?_ 3 _ rfl; (with_reducible repeat (first | refine blk_drewN ?_ _ | refine blk_drew ?_ | refine blk_alloc ?_ _)); refine blk_put (cs := #[.bool t335, .bool t336, .slice none 0 0, .int .i64 0, .bool false]) ?_ 2 _ rfl; (with_reducible repeat (first | refine blk_drewN ?_ _ | refine blk_drew ?_ | refine blk_alloc ?_ _)); refine blk_put (cs := #[.bool t335, .bool false, .slice none 0 0, .int .i64 0, .bool false]) ?_ 1 _ rfl; (with_reducible repeat (first | refine blk_drewN ?_ _ | refine blk_drew ?_ | refine blk_alloc ?_ _)); refine blk_put (cs := #[.bool false, .bool false, .slice none 0 0, .int .i64 0, .bool false]) ?_ 0 _ rfl; (with_reducible repeat (first | refine blk_drewN ?_ _ | refine blk_drew ?_ | refine blk_alloc ?_ _)); exact BK342.out⟩, ⟨by repeat (first | (with_reducible first | exact HB.out | apply below_alloc | apply pw_below_drewN | apply below_drew1 | refine below_set ?_ GE342.out) | exact HB.out)⟩⟩
          case round =>
            clear H'
            try clear c1
            try clear p2
            try clear c5
            try clear c6
            try clear c7
            try clear c8
            try clear c8b0
            try clear c8b1
            try clear c9
            try clear hcz19_0
            try clear hcz19_1
            try clear hcz19_2
            try clear hcz19_3
            try clear hcz19_4
            try clear hfz19_0
            try clear hfz19_1
            try clear hfz19_2
            try clear hfz19_3
            try clear hfz19_4
            try clear p2
            obtain ⟨x9_2, x343000_2, x343001_2, x343002_2, x343003_2, x343004_2, u343002, rfl, HA, HK2, HO_7, HO_343002, BK342, HB⟩ := hrel
            cases gk with
            | zero => exact absurd HA.out (by simp [repriselaw16_SearchRubs.l0])
            | succ k2 =>
              have H := HA.out
              clear HA
              simp only [repriselaw16_SearchRubs.l0] at H
              by_cases c21 : x9_2 < (l1.length : Int)
              · rw [if_pos c21] at H
                have c21b0 : decide (x9_2 < (l1.length : Int)) = true := decide_eq_true c21
                clear c21
                by_cases c22 : 0 ≤ x9_2
                · rw [if_pos c22] at H
                  have c22b0 : decide (0 ≤ x9_2) = true := decide_eq_true c22
                  clear c22
                  replace H := Option.bind_eq_some_iff.mp H
                  obtain ⟨t344, A230, H⟩ := H
                  replace H : ((search_Type.f k2 t332 x343000_2 x343001_2 x343002_2 x343003_2 x343004_2 t344).bind fun bt345 => (repriselaw16_SearchRubs.l0 k2 l1 a2 t332 (wrap64 (x9_2 + 1)) bt345.1 bt345.2.1 bt345.2.2.1 bt345.2.2.2.1 bt345.2.2.2.2)) = some r := H
                  have A23 := Aside0.mk A230
                  clear A230
                  replace H := Option.bind_eq_some_iff.mp H
                  obtain ⟨⟨t345, t346, t347, t350, t351⟩, A240, H⟩ := H
                  replace H : (repriselaw16_SearchRubs.l0 k2 l1 a2 t332 (wrap64 (x9_2 + 1)) t345 t346 t347 t350 t351) = some r := H
                  have A24 := Aside0.mk A240
                  clear A240
                  have H' := Aside0.mk H
                  clear H
                  try go_wp2
                  have n0_ := Aside0.mk (Kd.Q_drew HO_7.out)
                  have n1_ := Aside0.mk (Kd.R_drew HO_343002.out)
                  have n2_ := Aside0.mk (blk_drew BK342.out)
                  have n3_ := Aside0.mk (below_drew1 HB.out)
                  clear HO_7
                  clear HO_343002
                  clear BK342
                  clear HB
                  have HO_7 := n0_
                  have HO_343002 := n1_
                  have BK342 := n2_
                  have HB := n3_
                  clear n0_ n1_ n2_ n3_
                  have p343 : 0 ≤ (x9_2 : Int) := of_decide_eq_true (by first | (with_reducible assumption) | assumption)
                  have q343 : x9_2 < (l1.length : Int) := of_decide_eq_true (by first | (with_reducible assumption) | assumption)
                  obtain ⟨ad343, e343, hx343_0⟩ := Kd.at_int HR1.out x9_2 p343 q343
                  have hw343_0 := hx343_0
                  cases e343
                  replace hx343_0 := (HB.out.cell (World.block_lt_of_cell? w _ hx343_0)).trans hx343_0
                  replace p343 := eq_true p343
                  replace q343 := eq_true q343
                  refine start_ (n := 9) (S := fun w' => w'.cell? ⟨gb342, 0, none⟩ = some (.bool x343000_2) ∧ w'.cell? ⟨gb342, 1, none⟩ = some (.bool x343001_2) ∧ w'.cell? ⟨gb342, 2, none⟩ = some (u343002) ∧ w'.cell? ⟨gb342, 3, none⟩ = some (.int .i64 x343003_2) ∧ w'.cell? ⟨gb342, 4, none⟩ = some (.bool x343004_2) ∧ w'.cell? (ad343.add (x9_2).toNat) = some (.int .u8 (rd l1 x9_2))) (ds := [8]) #[false, false, false, false, false, false, false, false, false] (by kernel_rfl) rfl rfl ⟨(blk_cell BK342.out 0).trans rfl, (blk_cell BK342.out 1).trans rfl, (blk_cell BK342.out 2).trans rfl, (blk_cell BK342.out 3).trans rfl, (blk_cell BK342.out 4).trans rfl, ((HB.out.cell (World.block_lt_of_cell? w _ hw343_0)).trans hw343_0)⟩ (fun hHeld => ?_); refine with_tabW repriselaw16_SearchRubs.tab10 repriselaw16_SearchRubs.bits10 (fun HT_ HW_ => ?_)
                  generalize wr.drew = w25 at HO_7 HO_343002 BK342 HB hx343_0 hHeld ⊢
                  refine pure_ (i := 0) (N := some 36) (v := ?_) (a' := ?_) #[true, false, false, false, false, false, false, false, false] rfl rfl (any_of HT_.out (by kernel_rfl)) (fun _ _ _ h => h) (Or.inl ⟨by rfl, ?_⟩) ?_ ?_
                  rotate_left
                  · intro w'
                    go_simp
                    with_reducible rfl
                  rotate_left
                  · simp only [Act.put, List.setIfInBounds_toArray, List.set_cons_zero, List.set_cons_succ, i64_w, i32_w]
                    rfl
                  refine pure_ (i := 2) (N := some 38) (v := ?_) (a' := ?_) #[true, false, true, false, false, false, false, false, false] rfl rfl (any_of HT_.out (by kernel_rfl)) (fun _ _ _ h => h) (Or.inl ⟨by rfl, ?_⟩) ?_ ?_
                  rotate_left
                  · intro w'
                    go_simp
                    with_reducible rfl
                  rotate_left
                  · simp only [Act.put, List.setIfInBounds_toArray, List.set_cons_zero, List.set_cons_succ, i64_w, i32_w]
                    rfl
                  refine pure_ (i := 3) (N := some 39) (v := ?_) (a' := ?_) #[true, false, true, true, false, false, false, false, false] rfl rfl (any_of HT_.out (by kernel_rfl)) (fun _ _ _ h => h) (Or.inl ⟨by rfl, ?_⟩) ?_ ?_
                  rotate_left
                  · intro w'
                    go_simp
                    with_reducible rfl
                  rotate_left
                  · simp only [Act.put, List.setIfInBounds_toArray, List.set_cons_zero, List.set_cons_succ, i64_w, i32_w]
                    rfl
                  refine pure_ (i := 4) (N := some 40) (v := ?_) (a' := ?_) #[true, false, true, true, true, false, false, false, false] rfl rfl (any_of HT_.out (by kernel_rfl)) (fun _ _ _ h => h) (Or.inl ⟨by rfl, ?_⟩) ?_ ?_
                  rotate_left
                  · intro w'
                    go_simp
                    with_reducible rfl
                  rotate_left
                  · simp only [Act.put, List.setIfInBounds_toArray, List.set_cons_zero, List.set_cons_succ, i64_w, i32_w]
                    rfl
                  refine take_ (i := 1) (N := some 37) (v := ?_) (a' := ?_) #[true, true, true, true, true, false, false, false, false] rfl rfl (take_ofW HT_.out HW_.out (by kernel_rfl)) (fun _ _ _ h => h) (Or.inl ⟨by rfl, ?_⟩) hHeld ?_ ?_
                  rotate_left
                  · rintro w' ⟨s0, s1, s2, s3, s4, s5⟩
                    go_simp
                    with_reducible rfl
                  rotate_left
                  · simp only [Act.put, List.setIfInBounds_toArray, List.set_cons_zero, List.set_cons_succ, i64_w, i32_w]
                    rfl
                  refine take_ (i := 5) (N := some 41) (v := ?_) (a' := ?_) #[true, true, true, true, true, true, false, false, false] rfl rfl (take_ofW HT_.out HW_.out (by kernel_rfl)) (fun _ _ _ h => h) (Or.inl ⟨by rfl, ?_⟩) hHeld ?_ ?_
                  rotate_left
                  · rintro w' ⟨s0, s1, s2, s3, s4, s5⟩
                    go_simp
                    with_reducible rfl
                  rotate_left
                  · simp only [Act.put, List.setIfInBounds_toArray, List.set_cons_zero, List.set_cons_succ, i64_w, i32_w]
                    rfl
                  refine one_ (i := 6) (N := some 42) #[true, true, true, true, true, true, true, false, false] rfl rfl (one_of HT_.out (by kernel_rfl)) (by decide) (fun K hK => ?_)
                  refine goes_ Try.func20 (by kernel_rfl) rfl #[.int .u8 (rd l1 x9_2)] (by rfl) rfl rfl (by (try simp only [List.map_toArray, List.map_cons, List.map_nil]); first | done | rfl | (simp only [List.length_drop, List.length_take]; rfl)) ?_
                  with_reducible refine (repriseseat_Rune.calls (rd l1 x9_2) t344 _ A23.out).mono ?_
                  rintro e w26 ⟨rfl, hb⟩
                  refine ⟨_, rfl, ?_⟩
                  have n0_ := Aside0.mk (Kd.Q_below (by (with_reducible repeat (first | apply Kd.Q_alloc | apply Kd.Q_drewN | apply Kd.Q_drew)); exact HO_7.out) hb)
                  have n1_ := Aside0.mk (Kd.R_below (by (with_reducible repeat (first | apply Kd.R_alloc | apply Kd.R_drewN | apply Kd.R_drew)); exact HO_343002.out) hb)
                  have n2_ := Aside0.mk (blk_below (g := gb342) (o := .cells #[.bool x343000_2, .bool x343001_2, u343002, .int .i64 x343003_2, .bool x343004_2] 29 (0, 0)) (by (with_reducible repeat (first | refine blk_drewN ?_ _ | refine blk_drew ?_ | refine blk_alloc ?_ _)); exact BK342.out) hb)
                  have n3_ := Aside0.mk (below_step (by repeat (first | (with_reducible first | exact HB.out | apply below_alloc | apply pw_below_drewN | apply below_drew1 | refine below_set ?_ GE342.out) | exact HB.out)) hb)
                  clear HO_7
                  clear HO_343002
                  clear BK342
                  clear HB
                  have HO_7 := n0_
                  have HO_343002 := n1_
                  have BK342 := n2_
                  have HB := n3_
                  clear n0_ n1_ n2_ n3_
                  (try clear hb)
                  (try clear hb2)
                  (try clear hk)
                  (try clear hi)
                  obtain ⟨Ao27, co27, eo27⟩ := Kd.R_slice HO_343002.out
                  (first | subst eo27 | (injection eo27 with f1_ f2_ f3_; have f4_ := f1_.symm; have f5_ := f3_.symm; clear f1_ f2_ f3_; subst f4_; subst f5_))
                  refine hK.out _ _ ⟨(blk_cell BK342.out 0).trans rfl, (blk_cell BK342.out 1).trans rfl, (blk_cell BK342.out 2).trans rfl, (blk_cell BK342.out 3).trans rfl, (blk_cell BK342.out 4).trans rfl, ((HB.out.cell (World.block_lt_of_cell? w _ hw343_0)).trans hw343_0)⟩ (fun hHeld => ?_)
                  clear hK K
                  refine norm_ (a' := ?_) ?_ ?_
                  rotate_left
                  · show Act.put _ (some 42) _ = _
                    simp only [Act.put, List.setIfInBounds_toArray, List.set_cons_zero, List.set_cons_succ, i64_w, i32_w]
                    rfl
                  refine one_ (i := 7) (N := some 43) #[true, true, true, true, true, true, true, true, false] rfl rfl (one_of HT_.out (by kernel_rfl)) (by decide) (fun K hK => ?_)
                  refine goes_ Try.func11 (by kernel_rfl) rfl #[.slice Ao16 t332.length co16, .agg #[.bool x343000_2, .bool x343001_2, .slice Ao27 x343002_2.length co27, .int .i64 x343003_2, .bool x343004_2], .int .i32 t344] (by rfl) rfl rfl (by (try simp only [List.map_toArray, List.map_cons, List.map_nil]); first | done | rfl | (simp only [List.length_drop, List.length_take]; rfl)) ?_
                  with_reducible refine (search_Type.calls k2 _ _ t332 x343000_2 x343001_2 _ _ x343002_2 x343003_2 x343004_2 t344 t345 t346 t347 t350 t351 _ ?side1 ?side2 ?side3 ?side4 A24.out).mono ?_
                  (case side1 => repeat (first | exact (Kd.Q_reads' HO_7.out).2.2 | (with_reducible refine Kd.C_alloc ?_ _) | (with_reducible refine Kd.C_drewN ?_ _) | (with_reducible refine Kd.C_drew ?_)))
                  (case side2 => exact (Kd.Q_reads' HO_7.out).2.1)
                  (case side3 => repeat (first | exact (Kd.R_reads' HO_343002.out).2.2 | (with_reducible refine Kd.C_alloc ?_ _) | (with_reducible refine Kd.C_drewN ?_ _) | (with_reducible refine Kd.C_drew ?_)))
                  (case side4 => exact (Kd.R_reads' HO_343002.out).2.1)
                  rintro e w28 ⟨v348, rfl, ho0, hb⟩
                  refine ⟨_, rfl, ?_⟩
                  have n0_ := Aside0.mk (Kd.Q_below (by (with_reducible repeat (first | apply Kd.Q_alloc | apply Kd.Q_drewN | apply Kd.Q_drew)); exact HO_7.out) hb)
                  have n1_ := Aside0.mk (Kd.R_elder' (by (with_reducible repeat (first | apply Kd.R_alloc | apply Kd.R_drewN | apply Kd.R_drew)); exact HO_343002.out) (Kd.R_base ho0) hb)
                  have n2_ := Aside0.mk (Kd.R_lower (Kd.R_new' ho0 (Kd.R_lt (by (with_reducible repeat (first | apply Kd.R_alloc | apply Kd.R_drewN | apply Kd.R_drew)); exact HO_343002.out))) (below_size (by repeat (first | (with_reducible first | exact HB.out | apply below_alloc | apply pw_below_drewN | apply below_drew1 | refine below_set ?_ GE342.out) | exact HB.out))))
                  have n3_ := Aside0.mk (blk_below (g := gb342) (o := .cells #[.bool x343000_2, .bool x343001_2, .slice Ao27 x343002_2.length co27, .int .i64 x343003_2, .bool x343004_2] 29 (0, 0)) (by (with_reducible repeat (first | refine blk_drewN ?_ _ | refine blk_drew ?_ | refine blk_alloc ?_ _)); exact BK342.out) hb)
                  have n4_ := Aside0.mk (below_step (by repeat (first | (with_reducible first | exact HB.out | apply below_alloc | apply pw_below_drewN | apply below_drew1 | refine below_set ?_ GE342.out) | exact HB.out)) hb)
                  clear HO_7
                  clear HO_343002
                  clear BK342
                  clear HB
                  have HO_7 := n0_
                  have HO_343002 := n1_
                  have HO349 := n2_
                  have BK342 := n3_
                  have HB := n4_
                  clear n0_ n1_ n2_ n3_ n4_
                  (try clear hb)
                  (try clear hb2)
                  (try clear hk)
                  (try clear hi)
                  (try clear ho0)
                  obtain ⟨Ao31, co31, eo31⟩ := Kd.R_slice HO349.out
                  (first | subst eo31 | (injection eo31 with f1_ f2_ f3_; have f4_ := f1_.symm; have f5_ := f3_.symm; clear f1_ f2_ f3_; subst f4_; subst f5_))
                  refine hK.out _ _ ⟨(blk_cell BK342.out 0).trans rfl, (blk_cell BK342.out 1).trans rfl, (blk_cell BK342.out 2).trans rfl, (blk_cell BK342.out 3).trans rfl, (blk_cell BK342.out 4).trans rfl, ((HB.out.cell (World.block_lt_of_cell? w _ hw343_0)).trans hw343_0)⟩ (fun hHeld => ?_)
                  clear hK K
                  refine norm_ (a' := ?_) ?_ ?_
                  rotate_left
                  · show Act.put _ (some 43) _ = _
                    simp only [Act.put, List.setIfInBounds_toArray, List.set_cons_zero, List.set_cons_succ, i64_w, i32_w]
                    rfl
                  refine last_ (i := 8) (N := none) #[true, true, true, true, true, true, true, true, true] rfl rfl (one_of HT_.out (by kernel_rfl)) (by decide) (fun K hK => ?_)
                  have hs29 : w28.cell? ⟨gb342, 0, none⟩ = some (.bool x343000_2) := (blk_cell BK342.out 0).trans rfl
                  have hfs29 := blk_frozen BK342.out 0
                  have hs30 : w28.cell? ⟨gb342, 1, none⟩ = some (.bool x343001_2) := (blk_cell BK342.out 1).trans rfl
                  have hfs30 := blk_frozen BK342.out 1
                  have hs32 : w28.cell? ⟨gb342, 2, none⟩ = some (.slice Ao27 x343002_2.length co27) := (blk_cell BK342.out 2).trans rfl
                  have hfs32 := blk_frozen BK342.out 2
                  have hs33 : w28.cell? ⟨gb342, 3, none⟩ = some (.int .i64 x343003_2) := (blk_cell BK342.out 3).trans rfl
                  have hfs33 := blk_frozen BK342.out 3
                  have hs34 : w28.cell? ⟨gb342, 4, none⟩ = some (.bool x343004_2) := (blk_cell BK342.out 4).trans rfl
                  have hfs34 := blk_frozen BK342.out 4
                  refine skip_ (w1 := ?_) (by rfl) rfl ?_ ?_
                  rotate_left
                  · go_simp
                    rfl
                  refine hK.out _ _ ?_
                  clear hK K
                  refine done_ (done_of HT_.out (by kernel_rfl)) ?_
                  try go_wp2
                  go_roundg k2
                  case measure => have := HJ5.out; have := HK2.out; omega
                  case rel => exact ⟨(wrap64 (x9_2 + 1)), (t345), (t346), (t347), (t350), (t351), (.slice Ao31 t347.length co31), (by first | rfl | (simp; done) | (simp [*]; done)), H', ⟨by have := HJ5.out; have := HK2.out; omega⟩, ⟨by (with_reducible repeat (first | apply Kd.Q_alloc | apply Kd.Q_drewN | apply Kd.Q_drew)); exact Kd.Q_mono (Kd.Q_far (p := ⟨gb342, 4, none⟩) (Kd.Q_far (p := ⟨gb342, 3, none⟩) (Kd.Q_far (p := ⟨gb342, 2, none⟩) (Kd.Q_far (p := ⟨gb342, 1, none⟩) (Kd.Q_far (p := ⟨gb342, 0, none⟩) (Kd.Q_types HO_7.out BK342.out (by decide)) (fun _ hk => hk.2) (.bool t345)) (fun _ hk => hk.2) (.bool t346)) (fun _ hk => hk.2) (.slice Ao31 t347.length co31)) (fun _ hk => hk.2) (.int .i64 t350)) (fun _ hk => hk.2) (.bool t351)) (fun _ hk => trivial)⟩, ⟨by (with_reducible repeat (first | apply Kd.R_alloc | apply Kd.R_drewN | apply Kd.R_drew)); exact Kd.R_mono (Kd.R_far (p := ⟨gb342, 4, none⟩) (Kd.R_far (p := ⟨gb342, 3, none⟩) (Kd.R_far (p := ⟨gb342, 2, none⟩) (Kd.R_far (p := ⟨gb342, 1, none⟩) (Kd.R_far (p := ⟨gb342, 0, none⟩) (Kd.R_types HO349.out BK342.out (by decide)) (fun _ hk => hk.2) (.bool t345)) (fun _ hk => hk.2) (.bool t346)) (fun _ hk => hk.2) (.slice Ao31 t347.length co31)) (fun _ hk => hk.2) (.int .i64 t350)) (fun _ hk => hk.2) (.bool t351)) (fun _ hk => trivial)⟩, ⟨by (with_reducible repeat (first | refine blk_drewN ?_ _ | refine blk_drew ?_ | refine blk_alloc ?_ _)); refine blk_put (cs := #[.bool t345, .bool t346, .slice Ao31 t347.length co31, .int .i64 t350, .bool x343004_2]) ?_ 4 _ rfl; (with_reducible repeat (first | refine blk_drewN ?_ _ | refine blk_drew ?_ | refine blk_alloc ?_ _)); refine blk_put (cs := #[.bool t345, .bool t346, .slice Ao31 t347.length co31, .int .i64 x343003_2, .bool x343004_2]) ?_ 3 _ rfl; (with_reducible repeat (first | refine blk_drewN ?_ _ | refine blk_drew ?_ | refine blk_alloc ?_ _)); refine blk_put (cs := #[.bool t345, .bool t346, .slice Ao27 x343002_2.length co27, .int .i64 x343003_2, .bool x343004_2]) ?_ 2 _ rfl; (with_reducible repeat (first | refine blk_drewN ?_ _ | refine blk_drew ?_ | refine blk_alloc ?_ _)); refine blk_put (cs := #[.bool t345, .bool x343001_2, .slice Ao27 x343002_2.length co27, .int .i64 x343003_2, .bool x343004_2]) ?_ 1 _ rfl; (with_reducible repeat (first | refine blk_drewN ?_ _ | refine blk_drew ?_ | refine blk_alloc ?_ _)); refine blk_put (cs := #[.bool x343000_2, .bool x343001_2, .slice Ao27 x343002_2.length co27, .int .i64 x343003_2, .bool x343004_2]) ?_ 0 _ rfl; (with_reducible repeat (first | refine blk_drewN ?_ _ | refine blk_drew ?_ | refine blk_alloc ?_ _)); exact BK342.out⟩, ⟨by repeat (first | (with_reducible first | exact HB.out | apply below_alloc | apply pw_below_drewN | apply below_drew1 | refine below_set ?_ GE342.out) | exact HB.out)⟩⟩
                · rw [if_neg c22] at H
                  exact absurd H (by simp)
              · rw [if_neg c21] at H
                have c21b0 : decide (x9_2 < (l1.length : Int)) = false := decide_eq_false c21
                clear c21
                replace H := Option.bind_eq_some_iff.mp H
                obtain ⟨⟨t352, t353, t354, t357, t358⟩, A350, H⟩ := H
                replace H : ((search_Rub.f t352 t353 t354 t357 t358).bind fun bt359 => (repriselaw16_SearchRubs.l1 k2 l1 a2 (x343002_2.length : Int) 0 x343000_2 x343001_2 x343002_2 x343003_2 x343004_2 bt359.1 bt359.2.1 bt359.2.2.1 bt359.2.2.2.1 bt359.2.2.2.2 x343000_2 x343001_2 x343002_2 x343003_2 x343004_2)) = some r := H
                have A35 := Aside0.mk A350
                clear A350
                replace H := Option.bind_eq_some_iff.mp H
                obtain ⟨⟨t359, t360, t361, t364, t365⟩, A360, H⟩ := H
                replace H : (repriselaw16_SearchRubs.l1 k2 l1 a2 (x343002_2.length : Int) 0 x343000_2 x343001_2 x343002_2 x343003_2 x343004_2 t359 t360 t361 t364 t365 x343000_2 x343001_2 x343002_2 x343003_2 x343004_2) = some r := H
                have A36 := Aside0.mk A360
                clear A360
                have H' := Aside0.mk H
                clear H
                have hcz37_0 : wr.cell? ⟨gb342, 0, none⟩ = some (.bool x343000_2) := (blk_cell BK342.out 0).trans rfl
                have hcz37_1 : wr.cell? ⟨gb342, 1, none⟩ = some (.bool x343001_2) := (blk_cell BK342.out 1).trans rfl
                have hcz37_2 : wr.cell? ⟨gb342, 2, none⟩ = some (u343002) := (blk_cell BK342.out 2).trans rfl
                have hcz37_3 : wr.cell? ⟨gb342, 3, none⟩ = some (.int .i64 x343003_2) := (blk_cell BK342.out 3).trans rfl
                have hcz37_4 : wr.cell? ⟨gb342, 4, none⟩ = some (.bool x343004_2) := (blk_cell BK342.out 4).trans rfl
                have hfz37_0 := blk_frozen BK342.out 0
                have hfz37_1 := blk_frozen BK342.out 1
                have hfz37_2 := blk_frozen BK342.out 2
                have hfz37_3 := blk_frozen BK342.out 3
                have hfz37_4 := blk_frozen BK342.out 4
                obtain ⟨Ao38, co38, eo38⟩ := Kd.R_slice HO_343002.out
                subst eo38
                go_wp2_with (first | ((with_reducible refine gate_callee (f := 11) rfl ?_); refine goesL_ (some 49) rfl rfl Try.func11 (by kernel_rfl) rfl #[.slice Ao16 t332.length co16, .agg #[.bool x343000_2, .bool x343001_2, .slice Ao38 x343002_2.length co38, .int .i64 x343003_2, .bool x343004_2], .int .i32 113] rfl (by (try simp only [List.map_toArray, List.map_cons, List.map_nil]); first | done | rfl | (simp only [List.length_drop, List.length_take]; rfl)) ?_; (with_reducible refine (search_Type.calls k2 _ _ t332 x343000_2 x343001_2 _ _ x343002_2 x343003_2 x343004_2 113 t352 t353 t354 t357 t358 _ ?side1 ?side2 ?side3 ?side4 A35.out).mono ?_); (case side1 => repeat (first | exact (Kd.Q_reads' HO_7.out).2.2 | (with_reducible refine Kd.C_alloc ?_ _) | (with_reducible refine Kd.C_drewN ?_ _) | (with_reducible refine Kd.C_drew ?_))); (case side2 => exact (Kd.Q_reads' HO_7.out).2.1); (case side3 => repeat (first | exact (Kd.R_reads' HO_343002.out).2.2 | (with_reducible refine Kd.C_alloc ?_ _) | (with_reducible refine Kd.C_drewN ?_ _) | (with_reducible refine Kd.C_drew ?_))); (case side4 => exact (Kd.R_reads' HO_343002.out).2.1); rintro e w39 ⟨v355, rfl, ho0, hb⟩; refine ⟨_, rfl, ?_⟩; have n0_ := Aside0.mk (Kd.Q_below (by (with_reducible repeat (first | apply Kd.Q_alloc | apply Kd.Q_drewN | apply Kd.Q_drew)); exact HO_7.out) hb); have n1_ := Aside0.mk (Kd.R_elder' (by (with_reducible repeat (first | apply Kd.R_alloc | apply Kd.R_drewN | apply Kd.R_drew)); exact HO_343002.out) (Kd.R_base ho0) hb); have n2_ := Aside0.mk (Kd.R_lower (Kd.R_new' ho0 (Kd.R_lt (by (with_reducible repeat (first | apply Kd.R_alloc | apply Kd.R_drewN | apply Kd.R_drew)); exact HO_343002.out))) (below_size (by repeat (first | (with_reducible first | exact HB.out | apply below_alloc | apply pw_below_drewN | apply below_drew1 | refine below_set ?_ GE342.out) | exact HB.out)))); have n3_ := Aside0.mk (blk_below (g := gb342) (o := .cells #[.bool x343000_2, .bool x343001_2, .slice Ao38 x343002_2.length co38, .int .i64 x343003_2, .bool x343004_2] 29 (0, 0)) (by (with_reducible repeat (first | refine blk_drewN ?_ _ | refine blk_drew ?_ | refine blk_alloc ?_ _)); exact BK342.out) hb); have n4_ := Aside0.mk (below_step (by repeat (first | (with_reducible first | exact HB.out | apply below_alloc | apply pw_below_drewN | apply below_drew1 | refine below_set ?_ GE342.out) | exact HB.out)) hb); clear HO_7; clear HO_343002; clear BK342; clear HB; have HO_7 := n0_; have HO_343002 := n1_; have HO356 := n2_; have BK342 := n3_; have HB := n4_; clear n0_ n1_ n2_ n3_ n4_; (try clear hb); (try clear hb2); (try clear hk); (try clear hi); (try clear ho0); obtain ⟨Ao40, co40, eo40⟩ := Kd.R_slice HO356.out; subst eo40) | ((with_reducible refine gate_callee (f := 15) rfl ?_); refine goesL_ (some 50) rfl rfl Try.func15 (by kernel_rfl) rfl #[.agg #[.bool t352, .bool t353, .slice Ao40 t354.length co40, .int .i64 t357, .bool t358]] rfl (by (try simp only [List.map_toArray, List.map_cons, List.map_nil]); first | done | rfl | (simp only [List.length_drop, List.length_take]; rfl)) ?_; (with_reducible refine (search_Rub.calls t352 t353 _ _ t354 t357 t358 t359 t360 t361 t364 t365 _ ?side1 ?side2 A36.out).mono ?_); (case side1 => repeat (first | exact (Kd.R_reads' HO356.out).2.2 | (with_reducible refine Kd.C_alloc ?_ _) | (with_reducible refine Kd.C_drewN ?_ _) | (with_reducible refine Kd.C_drew ?_))); (case side2 => exact (Kd.R_reads' HO356.out).2.1); rintro e w41 ⟨v362, rfl, ho0, hb⟩; refine ⟨_, rfl, ?_⟩; have n0_ := Aside0.mk (Kd.Q_below (by (with_reducible repeat (first | apply Kd.Q_alloc | apply Kd.Q_drewN | apply Kd.Q_drew)); exact HO_7.out) hb); have n1_ := Aside0.mk (Kd.R_elder' (by (with_reducible repeat (first | apply Kd.R_alloc | apply Kd.R_drewN | apply Kd.R_drew)); exact HO_343002.out) (Kd.R_base ho0) hb); have n2_ := Aside0.mk (Kd.R_elder' (by (with_reducible repeat (first | apply Kd.R_alloc | apply Kd.R_drewN | apply Kd.R_drew)); exact HO356.out) (Kd.R_base ho0) hb); have n3_ := Aside0.mk (Kd.R_lower (Kd.R_new' (Kd.R_new' ho0 (Kd.R_lt (by (with_reducible repeat (first | apply Kd.R_alloc | apply Kd.R_drewN | apply Kd.R_drew)); exact HO_343002.out))) (Kd.R_lt (by (with_reducible repeat (first | apply Kd.R_alloc | apply Kd.R_drewN | apply Kd.R_drew)); exact HO356.out))) (below_size (by repeat (first | (with_reducible first | exact HB.out | apply below_alloc | apply pw_below_drewN | apply below_drew1 | refine below_set ?_ GE342.out) | exact HB.out)))); have n4_ := Aside0.mk (blk_below (g := gb342) (o := .cells #[.bool x343000_2, .bool x343001_2, .slice Ao38 x343002_2.length co38, .int .i64 x343003_2, .bool x343004_2] 29 (0, 0)) (by (with_reducible repeat (first | refine blk_drewN ?_ _ | refine blk_drew ?_ | refine blk_alloc ?_ _)); exact BK342.out) hb); have n5_ := Aside0.mk (below_step (by repeat (first | (with_reducible first | exact HB.out | apply below_alloc | apply pw_below_drewN | apply below_drew1 | refine below_set ?_ GE342.out) | exact HB.out)) hb); clear HO_7; clear HO_343002; clear HO356; clear BK342; clear HB; have HO_7 := n0_; have HO_343002 := n1_; have HO356 := n2_; have HO363 := n3_; have BK342 := n4_; have HB := n5_; clear n0_ n1_ n2_ n3_ n4_ n5_; (try clear hb); (try clear hb2); (try clear hk); (try clear hi); (try clear ho0)) | ((with_reducible refine gate_dst (N := 11) rfl ?_); (try (refine gate_guard (by rfl) ?_; dsimp only)); refine box_event ?hg (N := 11) ?hd (cs := #[.bool false, .bool false, .slice none 0 0, .int .i64 0, .bool false]) (t := 29) ?hr ?_; (case hd => rfl); (case hg => rfl); (case hr => first | (go_simp; done) | (go_simp; rfl)); intro gb366 hg w42 hbox hb; have n0_ := Aside0.mk (Kd.Q_below (by (with_reducible repeat (first | apply Kd.Q_alloc | apply Kd.Q_drewN | apply Kd.Q_drew)); exact HO_7.out) hb); have n1_ := Aside0.mk (Kd.R_below (by (with_reducible repeat (first | apply Kd.R_alloc | apply Kd.R_drewN | apply Kd.R_drew)); exact HO_343002.out) hb); have n2_ := Aside0.mk (Kd.R_below (by (with_reducible repeat (first | apply Kd.R_alloc | apply Kd.R_drewN | apply Kd.R_drew)); exact HO356.out) hb); have n3_ := Aside0.mk (Kd.R_below (by (with_reducible repeat (first | apply Kd.R_alloc | apply Kd.R_drewN | apply Kd.R_drew)); exact HO363.out) hb); have n4_ := Aside0.mk (blk_below (g := gb342) (o := .cells #[.bool x343000_2, .bool x343001_2, .slice Ao38 x343002_2.length co38, .int .i64 x343003_2, .bool x343004_2] 29 (0, 0)) (by (with_reducible repeat (first | refine blk_drewN ?_ _ | refine blk_drew ?_ | refine blk_alloc ?_ _)); exact BK342.out) hb); have n5_ := Aside0.mk (below_step (by repeat (first | (with_reducible first | exact HB.out | apply below_alloc | apply pw_below_drewN | apply below_drew1 | refine below_set ?_ GE342.out) | exact HB.out)) hb); have n6_ := Aside0.mk (hbox); have n7_ := Aside0.mk ((by rw [hg]; exact (below_size (by repeat (first | (with_reducible first | exact HB.out | apply below_alloc | apply pw_below_drewN | apply below_drew1 | refine below_set ?_ GE342.out) | exact HB.out))) : w.heap.size ≤ gb366)); have n8_ := Aside0.mk ((by rw [hg]; exact (below_size (by repeat (first | (with_reducible first | exact HB.out | apply below_alloc | apply pw_below_drewN | apply below_drew1 | refine below_set ?_ GE342.out) | exact HB.out))) : w.heap.size ≤ gb366)); have n9_ := Aside0.mk ((by rw [hg]; exact Nat.ne_of_lt (blk_lt (g := gb342) (o := .cells #[.bool x343000_2, .bool x343001_2, .slice Ao38 x343002_2.length co38, .int .i64 x343003_2, .bool x343004_2] 29 (0, 0)) (by (with_reducible repeat (first | refine blk_drewN ?_ _ | refine blk_drew ?_ | refine blk_alloc ?_ _)); exact BK342.out)) : gb342 ≠ gb366)); have n10_ := Aside0.mk ((by rw [hg]; exact Nat.ne_of_gt (blk_lt (g := gb342) (o := .cells #[.bool x343000_2, .bool x343001_2, .slice Ao38 x343002_2.length co38, .int .i64 x343003_2, .bool x343004_2] 29 (0, 0)) (by (with_reducible repeat (first | refine blk_drewN ?_ _ | refine blk_drew ?_ | refine blk_alloc ?_ _)); exact BK342.out)) : gb366 ≠ gb342)); clear HO_7; clear HO_343002; clear HO356; clear HO363; clear BK342; clear HB; have HO_7 := n0_; have HO_343002 := n1_; have HO356 := n2_; have HO363 := n3_; have BK342 := n4_; have HB := n5_; have BK366 := n6_; have GW366 := n7_; have GE366 := n8_; have NB342_366 := n9_; have NB366_342 := n10_; clear n0_ n1_ n2_ n3_ n4_ n5_ n6_ n7_ n8_ n9_ n10_; clear hb hbox hg; have hnb43 := NB366_342.out; have hnc43 := NB342_366.out; have hcz44_0 : w42.cell? ⟨gb366, 0, none⟩ = some (.bool false) := (blk_cell BK366.out 0).trans rfl; have hcz44_1 : w42.cell? ⟨gb366, 1, none⟩ = some (.bool false) := (blk_cell BK366.out 1).trans rfl; have hcz44_2 : w42.cell? ⟨gb366, 2, none⟩ = some (.slice none 0 0) := (blk_cell BK366.out 2).trans rfl; have hcz44_3 : w42.cell? ⟨gb366, 3, none⟩ = some (.int .i64 0) := (blk_cell BK366.out 3).trans rfl; have hcz44_4 : w42.cell? ⟨gb366, 4, none⟩ = some (.bool false) := (blk_cell BK366.out 4).trans rfl; have hfz44_0 := blk_frozen BK366.out 0; have hfz44_1 := blk_frozen BK366.out 1; have hfz44_2 := blk_frozen BK366.out 2; have hfz44_3 := blk_frozen BK366.out 3; have hfz44_4 := blk_frozen BK366.out 4; obtain ⟨Ao45, co45, eo45⟩ := Kd.R_slice HO363.out; subst eo45; have hcz46_0 : w42.cell? ⟨gb342, 0, none⟩ = some (.bool x343000_2) := (blk_cell BK342.out 0).trans rfl; have hcz46_1 : w42.cell? ⟨gb342, 1, none⟩ = some (.bool x343001_2) := (blk_cell BK342.out 1).trans rfl; have hcz46_2 : w42.cell? ⟨gb342, 2, none⟩ = some (.slice Ao38 x343002_2.length co38) := (blk_cell BK342.out 2).trans rfl; have hcz46_3 : w42.cell? ⟨gb342, 3, none⟩ = some (.int .i64 x343003_2) := (blk_cell BK342.out 3).trans rfl; have hcz46_4 : w42.cell? ⟨gb342, 4, none⟩ = some (.bool x343004_2) := (blk_cell BK342.out 4).trans rfl; have hfz46_0 := blk_frozen BK342.out 0; have hfz46_1 := blk_frozen BK342.out 1; have hfz46_2 := blk_frozen BK342.out 2; have hfz46_3 := blk_frozen BK342.out 3; have hfz46_4 := blk_frozen BK342.out 4) | ((with_reducible refine gate_dst (N := 12) rfl ?_); (try (refine gate_guard (by rfl) ?_; dsimp only)); refine box_event ?hg (N := 12) ?hd (cs := #[.bool false, .bool false, .slice none 0 0, .int .i64 0, .bool false]) (t := 29) ?hr ?_; (case hd => rfl); (case hg => rfl); (case hr => first | (go_simp; done) | (go_simp; rfl)); intro gb367 hg w47 hbox hb; have n0_ := Aside0.mk (Kd.Q_below (by (with_reducible repeat (first | apply Kd.Q_alloc | apply Kd.Q_drewN | apply Kd.Q_drew)); exact (Kd.Q_mono (Kd.Q_far (p := ⟨gb366, 4, none⟩) (Kd.Q_far (p := ⟨gb366, 3, none⟩) (Kd.Q_far (p := ⟨gb366, 2, none⟩) (Kd.Q_far (p := ⟨gb366, 1, none⟩) (Kd.Q_far (p := ⟨gb366, 0, none⟩) (Kd.Q_types HO_7.out BK366.out (by decide)) (fun _ hk => hk.2) (.bool t359)) (fun _ hk => hk.2) (.bool t360)) (fun _ hk => hk.2) (.slice Ao45 t361.length co45)) (fun _ hk => hk.2) (.int .i64 t364)) (fun _ hk => hk.2) (.bool t365)) (fun _ h_ => h_.1))) hb); have n1_ := Aside0.mk (Kd.R_below (by (with_reducible repeat (first | apply Kd.R_alloc | apply Kd.R_drewN | apply Kd.R_drew)); exact (Kd.R_mono (Kd.R_far (p := ⟨gb366, 4, none⟩) (Kd.R_far (p := ⟨gb366, 3, none⟩) (Kd.R_far (p := ⟨gb366, 2, none⟩) (Kd.R_far (p := ⟨gb366, 1, none⟩) (Kd.R_far (p := ⟨gb366, 0, none⟩) (Kd.R_types HO_343002.out BK366.out (by decide)) (fun _ hk => hk.2) (.bool t359)) (fun _ hk => hk.2) (.bool t360)) (fun _ hk => hk.2) (.slice Ao45 t361.length co45)) (fun _ hk => hk.2) (.int .i64 t364)) (fun _ hk => hk.2) (.bool t365)) (fun _ h_ => h_.1))) hb); have n2_ := Aside0.mk (Kd.R_below (by (with_reducible repeat (first | apply Kd.R_alloc | apply Kd.R_drewN | apply Kd.R_drew)); exact (Kd.R_mono (Kd.R_far (p := ⟨gb366, 4, none⟩) (Kd.R_far (p := ⟨gb366, 3, none⟩) (Kd.R_far (p := ⟨gb366, 2, none⟩) (Kd.R_far (p := ⟨gb366, 1, none⟩) (Kd.R_far (p := ⟨gb366, 0, none⟩) (Kd.R_types HO356.out BK366.out (by decide)) (fun _ hk => hk.2) (.bool t359)) (fun _ hk => hk.2) (.bool t360)) (fun _ hk => hk.2) (.slice Ao45 t361.length co45)) (fun _ hk => hk.2) (.int .i64 t364)) (fun _ hk => hk.2) (.bool t365)) (fun _ h_ => h_.1))) hb); have n3_ := Aside0.mk (Kd.R_below (by (with_reducible repeat (first | apply Kd.R_alloc | apply Kd.R_drewN | apply Kd.R_drew)); exact (Kd.R_mono (Kd.R_far (p := ⟨gb366, 4, none⟩) (Kd.R_far (p := ⟨gb366, 3, none⟩) (Kd.R_far (p := ⟨gb366, 2, none⟩) (Kd.R_far (p := ⟨gb366, 1, none⟩) (Kd.R_far (p := ⟨gb366, 0, none⟩) (Kd.R_types HO363.out BK366.out (by decide)) (fun _ hk => hk.2) (.bool t359)) (fun _ hk => hk.2) (.bool t360)) (fun _ hk => hk.2) (.slice Ao45 t361.length co45)) (fun _ hk => hk.2) (.int .i64 t364)) (fun _ hk => hk.2) (.bool t365)) (fun _ h_ => h_.1))) hb); have n4_ := Aside0.mk (blk_below (g := gb342) (o := .cells #[.bool x343000_2, .bool x343001_2, .slice Ao38 x343002_2.length co38, .int .i64 x343003_2, .bool x343004_2] 29 (0, 0)) (by (with_reducible repeat (first | refine blk_drewN ?_ _ | refine blk_drew ?_ | refine blk_alloc ?_ _)); refine blk_far ?_ NB342_366.out _; (with_reducible repeat (first | refine blk_drewN ?_ _ | refine blk_drew ?_ | refine blk_alloc ?_ _)); refine blk_far ?_ NB342_366.out _; (with_reducible repeat (first | refine blk_drewN ?_ _ | refine blk_drew ?_ | refine blk_alloc ?_ _)); refine blk_far ?_ NB342_366.out _; (with_reducible repeat (first | refine blk_drewN ?_ _ | refine blk_drew ?_ | refine blk_alloc ?_ _)); refine blk_far ?_ NB342_366.out _; (with_reducible repeat (first | refine blk_drewN ?_ _ | refine blk_drew ?_ | refine blk_alloc ?_ _)); refine blk_far ?_ NB342_366.out _; (with_reducible repeat (first | refine blk_drewN ?_ _ | refine blk_drew ?_ | refine blk_alloc ?_ _)); exact BK342.out) hb); have n5_ := Aside0.mk (blk_below (g := gb366) (o := .cells #[.bool t359, .bool t360, .slice Ao45 t361.length co45, .int .i64 t364, .bool t365] 29 (0, 0)) (by (with_reducible repeat (first | refine blk_drewN ?_ _ | refine blk_drew ?_ | refine blk_alloc ?_ _)); refine blk_put (cs := #[.bool t359, .bool t360, .slice Ao45 t361.length co45, .int .i64 t364, .bool false]) ?_ 4 _ rfl; (with_reducible repeat (first | refine blk_drewN ?_ _ | refine blk_drew ?_ | refine blk_alloc ?_ _)); refine blk_put (cs := #[.bool t359, .bool t360, .slice Ao45 t361.length co45, .int .i64 0, .bool false]) ?_ 3 _ rfl; (with_reducible repeat (first | refine blk_drewN ?_ _ | refine blk_drew ?_ | refine blk_alloc ?_ _)); refine blk_put (cs := #[.bool t359, .bool t360, .slice none 0 0, .int .i64 0, .bool false]) ?_ 2 _ rfl; (with_reducible repeat (first | refine blk_drewN ?_ _ | refine blk_drew ?_ | refine blk_alloc ?_ _)); refine blk_put (cs := #[.bool t359, .bool false, .slice none 0 0, .int .i64 0, .bool false]) ?_ 1 _ rfl; (with_reducible repeat (first | refine blk_drewN ?_ _ | refine blk_drew ?_ | refine blk_alloc ?_ _)); refine blk_put (cs := #[.bool false, .bool false, .slice none 0 0, .int .i64 0, .bool false]) ?_ 0 _ rfl; (with_reducible repeat (first | refine blk_drewN ?_ _ | refine blk_drew ?_ | refine blk_alloc ?_ _)); exact BK366.out) hb); have n6_ := Aside0.mk (below_step (by repeat (first | (with_reducible first | exact HB.out | apply below_alloc | apply pw_below_drewN | apply below_drew1 | refine below_set ?_ GE342.out | refine below_set ?_ GE366.out) | exact HB.out)) hb); have n7_ := Aside0.mk (hbox); have n8_ := Aside0.mk ((by rw [hg]; exact (below_size (by repeat (first | (with_reducible first | exact HB.out | apply below_alloc | apply pw_below_drewN | apply below_drew1 | refine below_set ?_ GE342.out | refine below_set ?_ GE366.out) | exact HB.out))) : w.heap.size ≤ gb367)); have n9_ := Aside0.mk ((by rw [hg]; exact (below_size (by repeat (first | (with_reducible first | exact HB.out | apply below_alloc | apply pw_below_drewN | apply below_drew1 | refine below_set ?_ GE342.out | refine below_set ?_ GE366.out) | exact HB.out))) : w.heap.size ≤ gb367)); have n10_ := Aside0.mk ((by rw [hg]; exact Nat.ne_of_lt (blk_lt (g := gb342) (o := .cells #[.bool x343000_2, .bool x343001_2, .slice Ao38 x343002_2.length co38, .int .i64 x343003_2, .bool x343004_2] 29 (0, 0)) (by (with_reducible repeat (first | refine blk_drewN ?_ _ | refine blk_drew ?_ | refine blk_alloc ?_ _)); refine blk_far ?_ NB342_366.out _; (with_reducible repeat (first | refine blk_drewN ?_ _ | refine blk_drew ?_ | refine blk_alloc ?_ _)); refine blk_far ?_ NB342_366.out _; (with_reducible repeat (first | refine blk_drewN ?_ _ | refine blk_drew ?_ | refine blk_alloc ?_ _)); refine blk_far ?_ NB342_366.out _; (with_reducible repeat (first | refine blk_drewN ?_ _ | refine blk_drew ?_ | refine blk_alloc ?_ _)); refine blk_far ?_ NB342_366.out _; (with_reducible repeat (first | refine blk_drewN ?_ _ | refine blk_drew ?_ | refine blk_alloc ?_ _)); refine blk_far ?_ NB342_366.out _; (with_reducible repeat (first | refine blk_drewN ?_ _ | refine blk_drew ?_ | refine blk_alloc ?_ _)); exact BK342.out)) : gb342 ≠ gb367)); have n11_ := Aside0.mk ((by rw [hg]; exact Nat.ne_of_gt (blk_lt (g := gb342) (o := .cells #[.bool x343000_2, .bool x343001_2, .slice Ao38 x343002_2.length co38, .int .i64 x343003_2, .bool x343004_2] 29 (0, 0)) (by (with_reducible repeat (first | refine blk_drewN ?_ _ | refine blk_drew ?_ | refine blk_alloc ?_ _)); refine blk_far ?_ NB342_366.out _; (with_reducible repeat (first | refine blk_drewN ?_ _ | refine blk_drew ?_ | refine blk_alloc ?_ _)); refine blk_far ?_ NB342_366.out _; (with_reducible repeat (first | refine blk_drewN ?_ _ | refine blk_drew ?_ | refine blk_alloc ?_ _)); refine blk_far ?_ NB342_366.out _; (with_reducible repeat (first | refine blk_drewN ?_ _ | refine blk_drew ?_ | refine blk_alloc ?_ _)); refine blk_far ?_ NB342_366.out _; (with_reducible repeat (first | refine blk_drewN ?_ _ | refine blk_drew ?_ | refine blk_alloc ?_ _)); refine blk_far ?_ NB342_366.out _; (with_reducible repeat (first | refine blk_drewN ?_ _ | refine blk_drew ?_ | refine blk_alloc ?_ _)); exact BK342.out)) : gb367 ≠ gb342)); have n12_ := Aside0.mk ((by rw [hg]; exact Nat.ne_of_lt (blk_lt (g := gb366) (o := .cells #[.bool t359, .bool t360, .slice Ao45 t361.length co45, .int .i64 t364, .bool t365] 29 (0, 0)) (by (with_reducible repeat (first | refine blk_drewN ?_ _ | refine blk_drew ?_ | refine blk_alloc ?_ _)); refine blk_put (cs := #[.bool t359, .bool t360, .slice Ao45 t361.length co45, .int .i64 t364, .bool false]) ?_ 4 _ rfl; (with_reducible repeat (first | refine blk_drewN ?_ _ | refine blk_drew ?_ | refine blk_alloc ?_ _)); refine blk_put (cs := #[.bool t359, .bool t360, .slice Ao45 t361.length co45, .int .i64 0, .bool false]) ?_ 3 _ rfl; (with_reducible repeat (first | refine blk_drewN ?_ _ | refine blk_drew ?_ | refine blk_alloc ?_ _)); refine blk_put (cs := #[.bool t359, .bool t360, .slice none 0 0, .int .i64 0, .bool false]) ?_ 2 _ rfl; (with_reducible repeat (first | refine blk_drewN ?_ _ | refine blk_drew ?_ | refine blk_alloc ?_ _)); refine blk_put (cs := #[.bool t359, .bool false, .slice none 0 0, .int .i64 0, .bool false]) ?_ 1 _ rfl; (with_reducible repeat (first | refine blk_drewN ?_ _ | refine blk_drew ?_ | refine blk_alloc ?_ _)); refine blk_put (cs := #[.bool false, .bool false, .slice none 0 0, .int .i64 0, .bool false]) ?_ 0 _ rfl; (with_reducible repeat (first | refine blk_drewN ?_ _ | refine blk_drew ?_ | refine blk_alloc ?_ _)); exact BK366.out)) : gb366 ≠ gb367)); have n13_ := Aside0.mk ((by rw [hg]; exact Nat.ne_of_gt (blk_lt (g := gb366) (o := .cells #[.bool t359, .bool t360, .slice Ao45 t361.length co45, .int .i64 t364, .bool t365] 29 (0, 0)) (by (with_reducible repeat (first | refine blk_drewN ?_ _ | refine blk_drew ?_ | refine blk_alloc ?_ _)); refine blk_put (cs := #[.bool t359, .bool t360, .slice Ao45 t361.length co45, .int .i64 t364, .bool false]) ?_ 4 _ rfl; (with_reducible repeat (first | refine blk_drewN ?_ _ | refine blk_drew ?_ | refine blk_alloc ?_ _)); refine blk_put (cs := #[.bool t359, .bool t360, .slice Ao45 t361.length co45, .int .i64 0, .bool false]) ?_ 3 _ rfl; (with_reducible repeat (first | refine blk_drewN ?_ _ | refine blk_drew ?_ | refine blk_alloc ?_ _)); refine blk_put (cs := #[.bool t359, .bool t360, .slice none 0 0, .int .i64 0, .bool false]) ?_ 2 _ rfl; (with_reducible repeat (first | refine blk_drewN ?_ _ | refine blk_drew ?_ | refine blk_alloc ?_ _)); refine blk_put (cs := #[.bool t359, .bool false, .slice none 0 0, .int .i64 0, .bool false]) ?_ 1 _ rfl; (with_reducible repeat (first | refine blk_drewN ?_ _ | refine blk_drew ?_ | refine blk_alloc ?_ _)); refine blk_put (cs := #[.bool false, .bool false, .slice none 0 0, .int .i64 0, .bool false]) ?_ 0 _ rfl; (with_reducible repeat (first | refine blk_drewN ?_ _ | refine blk_drew ?_ | refine blk_alloc ?_ _)); exact BK366.out)) : gb367 ≠ gb366)); clear HO_7; clear HO_343002; clear HO356; clear HO363; clear BK342; clear BK366; clear HB; have HO_7 := n0_; have HO_343002 := n1_; have HO356 := n2_; have HO363 := n3_; have BK342 := n4_; have BK366 := n5_; have HB := n6_; have BK367 := n7_; have GW367 := n8_; have GE367 := n9_; have NB342_367 := n10_; have NB367_342 := n11_; have NB366_367 := n12_; have NB367_366 := n13_; clear n0_ n1_ n2_ n3_ n4_ n5_ n6_ n7_ n8_ n9_ n10_ n11_ n12_ n13_; clear hb hbox hg; have hnb48 := NB367_342.out; have hnc48 := NB342_367.out; have hnb49 := NB367_366.out; have hnc49 := NB366_367.out; have hcz50_0 : w47.cell? ⟨gb367, 0, none⟩ = some (.bool false) := (blk_cell BK367.out 0).trans rfl; have hcz50_1 : w47.cell? ⟨gb367, 1, none⟩ = some (.bool false) := (blk_cell BK367.out 1).trans rfl; have hcz50_2 : w47.cell? ⟨gb367, 2, none⟩ = some (.slice none 0 0) := (blk_cell BK367.out 2).trans rfl; have hcz50_3 : w47.cell? ⟨gb367, 3, none⟩ = some (.int .i64 0) := (blk_cell BK367.out 3).trans rfl; have hcz50_4 : w47.cell? ⟨gb367, 4, none⟩ = some (.bool false) := (blk_cell BK367.out 4).trans rfl; have hfz50_0 := blk_frozen BK367.out 0; have hfz50_1 := blk_frozen BK367.out 1; have hfz50_2 := blk_frozen BK367.out 2; have hfz50_3 := blk_frozen BK367.out 3; have hfz50_4 := blk_frozen BK367.out 4))
                go_loopg [13] k2 (fun kq v13 w' => ∃ (x13_3 : Int) (x368000_3 : Bool) (x368001_3 : Bool) (x368002_3 : List Int) (x368003_3 : Int) (x368004_3 : Bool) (u368002 : Value), v13 = .int .i64 x13_3 ∧ Aside0 (repriselaw16_SearchRubs.l1 kq l1 a2 (x343002_2.length : Int) x13_3 x343000_2 x343001_2 x343002_2 x343003_2 x343004_2 t359 t360 t361 t364 t365 x368000_3 x368001_3 x368002_3 x368003_3 x368004_3 = some r) ∧ Aside0 (kq ≤ k2) ∧ Aside0 (Kd.R (Kd.int .i32) 21 w' w.heap.size (fun k_ => some k_ ≠ ((.slice Ao45 t361.length co45) : Value).ownBlock) (.slice Ao38 x343002_2.length co38) x343002_2) ∧ Aside0 (Kd.R (Kd.int .i32) 21 w' w.heap.size (fun k_ => some k_ ≠ ((.slice Ao38 x343002_2.length co38) : Value).ownBlock ∧ some k_ ≠ (u368002 : Value).ownBlock) (.slice Ao45 t361.length co45) t361) ∧ Aside0 (Kd.R (Kd.int .i32) 21 w' w.heap.size (fun k_ => some k_ ≠ ((.slice Ao45 t361.length co45) : Value).ownBlock) u368002 x368002_3) ∧ Aside0 (w'.heap[gb342]? = some (.cells #[.bool x343000_2, .bool x343001_2, (.slice Ao38 x343002_2.length co38), .int .i64 x343003_2, .bool x343004_2] 29 (0, 0))) ∧ Aside0 (w'.heap[gb366]? = some (.cells #[.bool t359, .bool t360, (.slice Ao45 t361.length co45), .int .i64 t364, .bool t365] 29 (0, 0))) ∧ Aside0 (w'.heap[gb367]? = some (.cells #[.bool x368000_3, .bool x368001_3, u368002, .int .i64 x368003_3, .bool x368004_3] 29 (0, 0))) ∧ Aside0 (Below w.heap.size w w'))
                case atStart => exact ⟨(0), (x343000_2), (x343001_2), (x343002_2), (x343003_2), (x343004_2), (.slice Ao38 x343002_2.length co38), (by first | rfl | (simp; done) | (simp [*]; done)), H', ⟨Nat.le_refl _⟩, ⟨by (with_reducible repeat (first | apply Kd.R_alloc | apply Kd.R_drewN | apply Kd.R_drew)); exact Kd.R_mono (Kd.R_far (p := ⟨gb367, 4, none⟩) (Kd.R_far (p := ⟨gb367, 3, none⟩) (Kd.R_far (p := ⟨gb367, 2, none⟩) (Kd.R_far (p := ⟨gb367, 1, none⟩) (Kd.R_far (p := ⟨gb367, 0, none⟩) (Kd.R_types HO_343002.out BK367.out (by decide)) (fun _ hk => hk.2) (.bool x343000_2)) (fun _ hk => hk.2) (.bool x343001_2)) (fun _ hk => hk.2) (.slice Ao38 x343002_2.length co38)) (fun _ hk => hk.2) (.int .i64 x343003_2)) (fun _ hk => hk.2) (.bool x343004_2)) (fun _ hk => hk.1.2)⟩, ⟨by (with_reducible repeat (first | apply Kd.R_alloc | apply Kd.R_drewN | apply Kd.R_drew)); exact Kd.R_mono (Kd.R_far (p := ⟨gb367, 4, none⟩) (Kd.R_far (p := ⟨gb367, 3, none⟩) (Kd.R_far (p := ⟨gb367, 2, none⟩) (Kd.R_far (p := ⟨gb367, 1, none⟩) (Kd.R_far (p := ⟨gb367, 0, none⟩) (Kd.R_types HO363.out BK367.out (by decide)) (fun _ hk => hk.2) (.bool x343000_2)) (fun _ hk => hk.2) (.bool x343001_2)) (fun _ hk => hk.2) (.slice Ao38 x343002_2.length co38)) (fun _ hk => hk.2) (.int .i64 x343003_2)) (fun _ hk => hk.2) (.bool x343004_2)) (fun _ hk => ⟨hk.1.1.2, hk.1.1.2⟩)⟩, ⟨by (with_reducible repeat (first | apply Kd.R_alloc | apply Kd.R_drewN | apply Kd.R_drew)); exact Kd.R_mono (Kd.R_far (p := ⟨gb367, 4, none⟩) (Kd.R_far (p := ⟨gb367, 3, none⟩) (Kd.R_far (p := ⟨gb367, 2, none⟩) (Kd.R_far (p := ⟨gb367, 1, none⟩) (Kd.R_far (p := ⟨gb367, 0, none⟩) (Kd.R_types HO_343002.out BK367.out (by decide)) (fun _ hk => hk.2) (.bool x343000_2)) (fun _ hk => hk.2) (.bool x343001_2)) (fun _ hk => hk.2) (.slice Ao38 x343002_2.length co38)) (fun _ hk => hk.2) (.int .i64 x343003_2)) (fun _ hk => hk.2) (.bool x343004_2)) (fun _ hk => hk.1.2)⟩, ⟨by (with_reducible repeat (first | refine blk_drewN ?_ _ | refine blk_drew ?_ | refine blk_alloc ?_ _)); refine blk_far ?_ NB342_367.out _; (with_reducible repeat (first | refine blk_drewN ?_ _ | refine blk_drew ?_ | refine blk_alloc ?_ _)); refine blk_far ?_ NB342_367.out _; (with_reducible repeat (first | refine blk_drewN ?_ _ | refine blk_drew ?_ | refine blk_alloc ?_ _)); refine blk_far ?_ NB342_367.out _; (with_reducible repeat (first | refine blk_drewN ?_ _ | refine blk_drew ?_ | refine blk_alloc ?_ _)); refine blk_far ?_ NB342_367.out _; (with_reducible repeat (first | refine blk_drewN ?_ _ | refine blk_drew ?_ | refine blk_alloc ?_ _)); refine blk_far ?_ NB342_367.out _; (with_reducible repeat (first | refine blk_drewN ?_ _ | refine blk_drew ?_ | refine blk_alloc ?_ _)); exact BK342.out⟩, ⟨by (with_reducible repeat (first | refine blk_drewN ?_ _ | refine blk_drew ?_ | refine blk_alloc ?_ _)); refine blk_far ?_ NB366_367.out _; (with_reducible repeat (first | refine blk_drewN ?_ _ | refine blk_drew ?_ | refine blk_alloc ?_ _)); refine blk_far ?_ NB366_367.out _; (with_reducible repeat (first | refine blk_drewN ?_ _ | refine blk_drew ?_ | refine blk_alloc ?_ _)); refine blk_far ?_ NB366_367.out _; (with_reducible repeat (first | refine blk_drewN ?_ _ | refine blk_drew ?_ | refine blk_alloc ?_ _)); refine blk_far ?_ NB366_367.out _; (with_reducible repeat (first | refine blk_drewN ?_ _ | refine blk_drew ?_ | refine blk_alloc ?_ _)); refine blk_far ?_ NB366_367.out _; (with_reducible repeat (first | refine blk_drewN ?_ _ | refine blk_drew ?_ | refine blk_alloc ?_ _)); exact BK366.out⟩, ⟨by (with_reducible repeat (first | refine blk_drewN ?_ _ | refine blk_drew ?_ | refine blk_alloc ?_ _)); refine blk_put (cs := #[.bool x343000_2, .bool x343001_2, .slice Ao38 x343002_2.length co38, .int .i64 x343003_2, .bool false]) ?_ 4 _ rfl; (with_reducible repeat (first | refine blk_drewN ?_ _ | refine blk_drew ?_ | refine blk_alloc ?_ _)); refine blk_put (cs := #[.bool x343000_2, .bool x343001_2, .slice Ao38 x343002_2.length co38, .int .i64 0, .bool false]) ?_ 3 _ rfl; (with_reducible repeat (first | refine blk_drewN ?_ _ | refine blk_drew ?_ | refine blk_alloc ?_ _)); refine blk_put (cs := #[.bool x343000_2, .bool x343001_2, .slice none 0 0, .int .i64 0, .bool false]) ?_ 2 _ rfl; (with_reducible repeat (first | refine blk_drewN ?_ _ | refine blk_drew ?_ | refine blk_alloc ?_ _)); refine blk_put (cs := #[.bool x343000_2, .bool false, .slice none 0 0, .int .i64 0, .bool false]) ?_ 1 _ rfl; (with_reducible repeat (first | refine blk_drewN ?_ _ | refine blk_drew ?_ | refine blk_alloc ?_ _)); refine blk_put (cs := #[.bool false, .bool false, .slice none 0 0, .int .i64 0, .bool false]) ?_ 0 _ rfl; (with_reducible repeat (first | refine blk_drewN ?_ _ | refine blk_drew ?_ | refine blk_alloc ?_ _)); exact BK367.out⟩, ⟨by repeat (first | (with_reducible first | exact HB.out | apply below_alloc | apply pw_below_drewN | apply below_drew1 | refine below_set ?_ GE342.out | refine below_set ?_ GE366.out | refine below_set ?_ GE367.out) | exact HB.out)⟩⟩
                case round =>
                  clear H'
                  try clear c1
                  try clear c2
                  try clear p2
                  try clear p3
                  try clear q3
                  try clear hx3
                  try clear c4
                  try clear c5
                  try clear c6
                  try clear p6
                  try clear c7
                  try clear c8
                  try clear c8b0
                  try clear c8b1
                  try clear c9
                  try clear c11
                  try clear c15
                  try clear c20
                  try clear c21
                  try clear c21b0
                  try clear c22
                  try clear c22b0
                  try clear p34
                  try clear q34
                  try clear hx34
                  try clear c43
                  try clear c48
                  try clear c49
                  try clear hcz19_0
                  try clear hcz19_1
                  try clear hcz19_2
                  try clear hcz19_3
                  try clear hcz19_4
                  try clear hcz37_0
                  try clear hcz37_1
                  try clear hcz37_2
                  try clear hcz37_3
                  try clear hcz37_4
                  try clear hcz44_0
                  try clear hcz44_1
                  try clear hcz44_2
                  try clear hcz44_3
                  try clear hcz44_4
                  try clear hcz46_0
                  try clear hcz46_1
                  try clear hcz46_2
                  try clear hcz46_3
                  try clear hcz46_4
                  try clear hcz50_0
                  try clear hcz50_1
                  try clear hcz50_2
                  try clear hcz50_3
                  try clear hcz50_4
                  try clear hfz19_0
                  try clear hfz19_1
                  try clear hfz19_2
                  try clear hfz19_3
                  try clear hfz19_4
                  try clear hfz37_0
                  try clear hfz37_1
                  try clear hfz37_2
                  try clear hfz37_3
                  try clear hfz37_4
                  try clear hfz44_0
                  try clear hfz44_1
                  try clear hfz44_2
                  try clear hfz44_3
                  try clear hfz44_4
                  try clear hfz46_0
                  try clear hfz46_1
                  try clear hfz46_2
                  try clear hfz46_3
                  try clear hfz46_4
                  try clear hfz50_0
                  try clear hfz50_1
                  try clear hfz50_2
                  try clear hfz50_3
                  try clear hfz50_4
                  try clear hx343_0
                  try clear p2
                  try clear p343
                  try clear q343
                  obtain ⟨x13_3, x368000_3, x368001_3, x368002_3, x368003_3, x368004_3, u368002, rfl, HA, HK3, HO_343002, HO_367002, HO_368002, BK342, BK366, BK367, HB⟩ := hrel
                  cases gk with
                  | zero => exact absurd HA.out (by simp [repriselaw16_SearchRubs.l1])
                  | succ k3 =>
                    have H := HA.out
                    clear HA
                    simp only [repriselaw16_SearchRubs.l1] at H
                    by_cases c51 : x13_3 < (wrap64 ((l1.length : Int) + 2))
                    · rw [if_pos c51] at H
                      have c51b0 : decide (x13_3 < (wrap64 ((l1.length : Int) + 2))) = true := decide_eq_true c51
                      clear c51
                      replace H := Option.bind_eq_some_iff.mp H
                      obtain ⟨⟨t368, t369, t370, t373, t374⟩, A520, H⟩ := H
                      replace H : (repriselaw16_SearchRubs.l1 k3 l1 a2 (x343002_2.length : Int) (wrap64 (x13_3 + 1)) x343000_2 x343001_2 x343002_2 x343003_2 x343004_2 t359 t360 t361 t364 t365 t368 t369 t370 t373 t374) = some r := H
                      have A52 := Aside0.mk A520
                      clear A520
                      have H' := Aside0.mk H
                      clear H
                      have hnb53 := NB367_342.out
                      have hnc53 := NB342_367.out
                      have hnb54 := NB367_366.out
                      have hnc54 := NB366_367.out
                      have hcz55_0 : wr.cell? ⟨gb367, 0, none⟩ = some (.bool x368000_3) := (blk_cell BK367.out 0).trans rfl
                      have hcz55_1 : wr.cell? ⟨gb367, 1, none⟩ = some (.bool x368001_3) := (blk_cell BK367.out 1).trans rfl
                      have hcz55_2 : wr.cell? ⟨gb367, 2, none⟩ = some (u368002) := (blk_cell BK367.out 2).trans rfl
                      have hcz55_3 : wr.cell? ⟨gb367, 3, none⟩ = some (.int .i64 x368003_3) := (blk_cell BK367.out 3).trans rfl
                      have hcz55_4 : wr.cell? ⟨gb367, 4, none⟩ = some (.bool x368004_3) := (blk_cell BK367.out 4).trans rfl
                      have hfz55_0 := blk_frozen BK367.out 0
                      have hfz55_1 := blk_frozen BK367.out 1
                      have hfz55_2 := blk_frozen BK367.out 2
                      have hfz55_3 := blk_frozen BK367.out 3
                      have hfz55_4 := blk_frozen BK367.out 4
                      obtain ⟨Ao56, co56, eo56⟩ := Kd.R_slice HO_368002.out
                      subst eo56
                      go_wp2_with (first | ((with_reducible refine gate_callee (f := 15) rfl ?_); refine goesL_ (some 60) rfl rfl Try.func15 (by kernel_rfl) rfl #[.agg #[.bool x368000_3, .bool x368001_3, .slice Ao56 x368002_3.length co56, .int .i64 x368003_3, .bool x368004_3]] rfl (by (try simp only [List.map_toArray, List.map_cons, List.map_nil]); first | done | rfl | (simp only [List.length_drop, List.length_take]; rfl)) ?_; (with_reducible refine (search_Rub.calls x368000_3 x368001_3 _ _ x368002_3 x368003_3 x368004_3 t368 t369 t370 t373 t374 _ ?side1 ?side2 A52.out).mono ?_); (case side1 => repeat (first | exact (Kd.R_reads' HO_368002.out).2.2 | (with_reducible refine Kd.C_alloc ?_ _) | (with_reducible refine Kd.C_drewN ?_ _) | (with_reducible refine Kd.C_drew ?_))); (case side2 => exact (Kd.R_reads' HO_368002.out).2.1); rintro e w57 ⟨v371, rfl, ho0, hb⟩; refine ⟨_, rfl, ?_⟩; have n0_ := Aside0.mk (Kd.R_elder' (by (with_reducible repeat (first | apply Kd.R_alloc | apply Kd.R_drewN | apply Kd.R_drew)); exact HO_343002.out) (Kd.R_base ho0) hb); have n1_ := Aside0.mk (Kd.R_elder' (by (with_reducible repeat (first | apply Kd.R_alloc | apply Kd.R_drewN | apply Kd.R_drew)); exact HO_367002.out) (Kd.R_base ho0) hb); have n2_ := Aside0.mk (Kd.R_elder' (by (with_reducible repeat (first | apply Kd.R_alloc | apply Kd.R_drewN | apply Kd.R_drew)); exact HO_368002.out) (Kd.R_base ho0) hb); have n3_ := Aside0.mk (Kd.R_lower (Kd.R_new' (Kd.R_new' (Kd.R_new' ho0 (Kd.R_lt (by (with_reducible repeat (first | apply Kd.R_alloc | apply Kd.R_drewN | apply Kd.R_drew)); exact HO_343002.out))) (Kd.R_lt (by (with_reducible repeat (first | apply Kd.R_alloc | apply Kd.R_drewN | apply Kd.R_drew)); exact HO_367002.out))) (Kd.R_lt (by (with_reducible repeat (first | apply Kd.R_alloc | apply Kd.R_drewN | apply Kd.R_drew)); exact HO_368002.out))) (below_size (by repeat (first | (with_reducible first | exact HB.out | apply below_alloc | apply pw_below_drewN | apply below_drew1 | refine below_set ?_ GE342.out | refine below_set ?_ GE366.out | refine below_set ?_ GE367.out) | exact HB.out)))); have n4_ := Aside0.mk (blk_below (g := gb342) (o := .cells #[.bool x343000_2, .bool x343001_2, .slice Ao38 x343002_2.length co38, .int .i64 x343003_2, .bool x343004_2] 29 (0, 0)) (by (with_reducible repeat (first | refine blk_drewN ?_ _ | refine blk_drew ?_ | refine blk_alloc ?_ _)); exact BK342.out) hb); have n5_ := Aside0.mk (blk_below (g := gb366) (o := .cells #[.bool t359, .bool t360, .slice Ao45 t361.length co45, .int .i64 t364, .bool t365] 29 (0, 0)) (by (with_reducible repeat (first | refine blk_drewN ?_ _ | refine blk_drew ?_ | refine blk_alloc ?_ _)); exact BK366.out) hb); have n6_ := Aside0.mk (blk_below (g := gb367) (o := .cells #[.bool x368000_3, .bool x368001_3, .slice Ao56 x368002_3.length co56, .int .i64 x368003_3, .bool x368004_3] 29 (0, 0)) (by (with_reducible repeat (first | refine blk_drewN ?_ _ | refine blk_drew ?_ | refine blk_alloc ?_ _)); exact BK367.out) hb); have n7_ := Aside0.mk (below_step (by repeat (first | (with_reducible first | exact HB.out | apply below_alloc | apply pw_below_drewN | apply below_drew1 | refine below_set ?_ GE342.out | refine below_set ?_ GE366.out | refine below_set ?_ GE367.out) | exact HB.out)) hb); clear HO_343002; clear HO_367002; clear HO_368002; clear BK342; clear BK366; clear BK367; clear HB; have HO_343002 := n0_; have HO_367002 := n1_; have HO_368002 := n2_; have HO372 := n3_; have BK342 := n4_; have BK366 := n5_; have BK367 := n6_; have HB := n7_; clear n0_ n1_ n2_ n3_ n4_ n5_ n6_ n7_; (try clear hb); (try clear hb2); (try clear hk); (try clear hi); (try clear ho0); have hcz58_0 : w57.cell? ⟨gb367, 0, none⟩ = some (.bool x368000_3) := (blk_cell BK367.out 0).trans rfl; have hcz58_1 : w57.cell? ⟨gb367, 1, none⟩ = some (.bool x368001_3) := (blk_cell BK367.out 1).trans rfl; have hcz58_2 : w57.cell? ⟨gb367, 2, none⟩ = some (.slice Ao56 x368002_3.length co56) := (blk_cell BK367.out 2).trans rfl; have hcz58_3 : w57.cell? ⟨gb367, 3, none⟩ = some (.int .i64 x368003_3) := (blk_cell BK367.out 3).trans rfl; have hcz58_4 : w57.cell? ⟨gb367, 4, none⟩ = some (.bool x368004_3) := (blk_cell BK367.out 4).trans rfl; have hfz58_0 := blk_frozen BK367.out 0; have hfz58_1 := blk_frozen BK367.out 1; have hfz58_2 := blk_frozen BK367.out 2; have hfz58_3 := blk_frozen BK367.out 3; have hfz58_4 := blk_frozen BK367.out 4; obtain ⟨Ao59, co59, eo59⟩ := Kd.R_slice HO372.out; subst eo59))
                      go_roundg k3
                      case measure => have := HJ5.out; have := HK2.out; have := HK3.out; omega
                      case rel => exact ⟨(wrap64 (x13_3 + 1)), (t368), (t369), (t370), (t373), (t374), (.slice Ao59 t370.length co59), (by first | rfl | (simp; done) | (simp [*]; done)), H', ⟨by have := HJ5.out; have := HK2.out; have := HK3.out; omega⟩, ⟨by (with_reducible repeat (first | apply Kd.R_alloc | apply Kd.R_drewN | apply Kd.R_drew)); exact Kd.R_mono (Kd.R_far (p := ⟨gb367, 4, none⟩) (Kd.R_far (p := ⟨gb367, 3, none⟩) (Kd.R_far (p := ⟨gb367, 2, none⟩) (Kd.R_far (p := ⟨gb367, 1, none⟩) (Kd.R_far (p := ⟨gb367, 0, none⟩) (Kd.R_types HO_343002.out BK367.out (by decide)) (fun _ hk => hk.2) (.bool t368)) (fun _ hk => hk.2) (.bool t369)) (fun _ hk => hk.2) (.slice Ao59 t370.length co59)) (fun _ hk => hk.2) (.int .i64 t373)) (fun _ hk => hk.2) (.bool t374)) (fun _ hk => by first | exact ⟨hk.1.1, hk.1.2⟩ | exact hk.1.1 | exact hk.1.2)⟩, ⟨by (with_reducible repeat (first | apply Kd.R_alloc | apply Kd.R_drewN | apply Kd.R_drew)); exact Kd.R_mono (Kd.R_far (p := ⟨gb367, 4, none⟩) (Kd.R_far (p := ⟨gb367, 3, none⟩) (Kd.R_far (p := ⟨gb367, 2, none⟩) (Kd.R_far (p := ⟨gb367, 1, none⟩) (Kd.R_far (p := ⟨gb367, 0, none⟩) (Kd.R_types HO_367002.out BK367.out (by decide)) (fun _ hk => hk.2) (.bool t368)) (fun _ hk => hk.2) (.bool t369)) (fun _ hk => hk.2) (.slice Ao59 t370.length co59)) (fun _ hk => hk.2) (.int .i64 t373)) (fun _ hk => hk.2) (.bool t374)) (fun _ hk => by first | exact ⟨hk.1.1.1, hk.1.2⟩ | exact hk.1.1.1 | exact hk.1.2 | exact hk.1.1.2)⟩, ⟨by (with_reducible repeat (first | apply Kd.R_alloc | apply Kd.R_drewN | apply Kd.R_drew)); exact Kd.R_mono (Kd.R_far (p := ⟨gb367, 4, none⟩) (Kd.R_far (p := ⟨gb367, 3, none⟩) (Kd.R_far (p := ⟨gb367, 2, none⟩) (Kd.R_far (p := ⟨gb367, 1, none⟩) (Kd.R_far (p := ⟨gb367, 0, none⟩) (Kd.R_types HO372.out BK367.out (by decide)) (fun _ hk => hk.2) (.bool t368)) (fun _ hk => hk.2) (.bool t369)) (fun _ hk => hk.2) (.slice Ao59 t370.length co59)) (fun _ hk => hk.2) (.int .i64 t373)) (fun _ hk => hk.2) (.bool t374)) (fun _ hk => by first | exact ⟨hk.1.1.1.2, hk.1.1.2⟩ | exact hk.1.1.1.2 | exact hk.1.1.2 | exact hk.1.1.1.1 | exact hk.1.2)⟩, ⟨by (with_reducible repeat (first | refine blk_drewN ?_ _ | refine blk_drew ?_ | refine blk_alloc ?_ _)); refine blk_far ?_ NB342_367.out _; (with_reducible repeat (first | refine blk_drewN ?_ _ | refine blk_drew ?_ | refine blk_alloc ?_ _)); refine blk_far ?_ NB342_367.out _; (with_reducible repeat (first | refine blk_drewN ?_ _ | refine blk_drew ?_ | refine blk_alloc ?_ _)); refine blk_far ?_ NB342_367.out _; (with_reducible repeat (first | refine blk_drewN ?_ _ | refine blk_drew ?_ | refine blk_alloc ?_ _)); refine blk_far ?_ NB342_367.out _; (with_reducible repeat (first | refine blk_drewN ?_ _ | refine blk_drew ?_ | refine blk_alloc ?_ _)); refine blk_far ?_ NB342_367.out _; (with_reducible repeat (first | refine blk_drewN ?_ _ | refine blk_drew ?_ | refine blk_alloc ?_ _)); exact BK342.out⟩, ⟨by (with_reducible repeat (first | refine blk_drewN ?_ _ | refine blk_drew ?_ | refine blk_alloc ?_ _)); refine blk_far ?_ NB366_367.out _; (with_reducible repeat (first | refine blk_drewN ?_ _ | refine blk_drew ?_ | refine blk_alloc ?_ _)); refine blk_far ?_ NB366_367.out _; (with_reducible repeat (first | refine blk_drewN ?_ _ | refine blk_drew ?_ | refine blk_alloc ?_ _)); refine blk_far ?_ NB366_367.out _; (with_reducible repeat (first | refine blk_drewN ?_ _ | refine blk_drew ?_ | refine blk_alloc ?_ _)); refine blk_far ?_ NB366_367.out _; (with_reducible repeat (first | refine blk_drewN ?_ _ | refine blk_drew ?_ | refine blk_alloc ?_ _)); refine blk_far ?_ NB366_367.out _; (with_reducible repeat (first | refine blk_drewN ?_ _ | refine blk_drew ?_ | refine blk_alloc ?_ _)); exact BK366.out⟩, ⟨by (with_reducible repeat (first | refine blk_drewN ?_ _ | refine blk_drew ?_ | refine blk_alloc ?_ _)); refine blk_put (cs := #[.bool t368, .bool t369, .slice Ao59 t370.length co59, .int .i64 t373, .bool x368004_3]) ?_ 4 _ rfl; (with_reducible repeat (first | refine blk_drewN ?_ _ | refine blk_drew ?_ | refine blk_alloc ?_ _)); refine blk_put (cs := #[.bool t368, .bool t369, .slice Ao59 t370.length co59, .int .i64 x368003_3, .bool x368004_3]) ?_ 3 _ rfl; (with_reducible repeat (first | refine blk_drewN ?_ _ | refine blk_drew ?_ | refine blk_alloc ?_ _)); refine blk_put (cs := #[.bool t368, .bool t369, .slice Ao56 x368002_3.length co56, .int .i64 x368003_3, .bool x368004_3]) ?_ 2 _ rfl; (with_reducible repeat (first | refine blk_drewN ?_ _ | refine blk_drew ?_ | refine blk_alloc ?_ _)); refine blk_put (cs := #[.bool t368, .bool x368001_3, .slice Ao56 x368002_3.length co56, .int .i64 x368003_3, .bool x368004_3]) ?_ 1 _ rfl; (with_reducible repeat (first | refine blk_drewN ?_ _ | refine blk_drew ?_ | refine blk_alloc ?_ _)); refine blk_put (cs := #[.bool x368000_3, .bool x368001_3, .slice Ao56 x368002_3.length co56, .int .i64 x368003_3, .bool x368004_3]) ?_ 0 _ rfl; (with_reducible repeat (first | refine blk_drewN ?_ _ | refine blk_drew ?_ | refine blk_alloc ?_ _)); exact BK367.out⟩, ⟨by repeat (first | (with_reducible first | exact HB.out | apply below_alloc | apply pw_below_drewN | apply below_drew1 | refine below_set ?_ GE342.out | refine below_set ?_ GE366.out | refine below_set ?_ GE367.out) | exact HB.out)⟩⟩
                    · rw [if_neg c51] at H
                      have c51b0 : decide (x13_3 < (wrap64 ((l1.length : Int) + 2))) = false := decide_eq_false c51
                      clear c51
                      by_cases c60 : (x343002_2.length : Int) = (l1.length : Int)
                      · rw [if_pos c60] at H
                        have c60b0 : ((x343002_2.length : Int) == (l1.length : Int)) = true := beq_iff_eq.mpr c60
                        have c60b1 : ((x343002_2.length : Int) != (l1.length : Int)) = false := bne_eq_false_iff_eq.mpr c60
                        have c60b2 : (x343002_2.length == l1.length) = true := by first | simpa using c60 | (simp at c60 ⊢; omega)
                        clear c60
                        replace H := Option.bind_eq_some_iff.mp H
                        obtain ⟨t375, A610, H⟩ := H
                        replace H : (if t375 = true then (if t365 = true then (none) else (if (t360 == a2) = true then (if (x368002_3.length : Int) = 0 then (if x368000_3 = true then (some (x368003_3 == x343003_2)) else (none)) else (none)) else (none))) else (none)) = some r := H
                        have A61 := Aside0.mk A610
                        clear A610
                        by_cases c62 : t375 = true
                        · subst c62
                          have H1 : (if t365 = true then (none) else (if (t360 == a2) = true then (if (x368002_3.length : Int) = 0 then (if x368000_3 = true then (some (x368003_3 == x343003_2)) else (none)) else (none)) else (none))) = some r := by rw [if_pos rfl] at H; exact H
                          clear H
                          have H := H1
                          clear H1
                          by_cases c63 : t365 = true
                          · subst c63
                            have H1 : (none) = some r := by rw [if_pos rfl] at H; exact H
                            clear H
                            have H := H1
                            clear H1
                            exact absurd H (by simp)
                          · replace c63 := Bool.eq_false_iff.mpr c63
                            subst c63
                            have H1 : (if (t360 == a2) = true then (if (x368002_3.length : Int) = 0 then (if x368000_3 = true then (some (x368003_3 == x343003_2)) else (none)) else (none)) else (none)) = some r := by rw [if_neg (show ¬ (false = true) by decide)] at H; exact H
                            clear H
                            have H := H1
                            clear H1
                            by_cases c64 : (t360 == a2) = true
                            · rw [if_pos c64] at H
                              have c64b0 : (t360 == a2) = true := c64
                              (try (have c64b1 : decide (t360 = a2) = true := by simpa using c64))
                              (try (have c64b2 : (t360 == a2) = true := by simpa using c64))
                              clear c64
                              by_cases c65 : (x368002_3.length : Int) = 0
                              · rw [if_pos c65] at H
                                have c65b0 : ((x368002_3.length : Int) == 0) = true := beq_iff_eq.mpr c65
                                have c65b1 : ((x368002_3.length : Int) != 0) = false := bne_eq_false_iff_eq.mpr c65
                                have c65b2 : (x368002_3 = []) = True := eq_true (List.length_eq_zero_iff.1 (by omega))
                                clear c65
                                by_cases c66 : x368000_3 = true
                                · subst c66
                                  have H1 : (some (x368003_3 == x343003_2)) = some r := by rw [if_pos rfl] at H; exact H
                                  clear H
                                  have H := H1
                                  clear H1
                                  obtain rfl := Option.some.inj H
                                  have hnb67 := NB366_342.out
                                  have hnc67 := NB342_366.out
                                  have hnb68 := NB366_367.out
                                  have hnc68 := NB367_366.out
                                  have hcz69_0 : wr.cell? ⟨gb366, 0, none⟩ = some (.bool t359) := (blk_cell BK366.out 0).trans rfl
                                  have hcz69_1 : wr.cell? ⟨gb366, 1, none⟩ = some (.bool t360) := (blk_cell BK366.out 1).trans rfl
                                  have hcz69_2 : wr.cell? ⟨gb366, 2, none⟩ = some (.slice Ao45 t361.length co45) := (blk_cell BK366.out 2).trans rfl
                                  have hcz69_3 : wr.cell? ⟨gb366, 3, none⟩ = some (.int .i64 t364) := (blk_cell BK366.out 3).trans rfl
                                  have hcz69_4 : wr.cell? ⟨gb366, 4, none⟩ = some (.bool false) := (blk_cell BK366.out 4).trans rfl
                                  have hfz69_0 := blk_frozen BK366.out 0
                                  have hfz69_1 := blk_frozen BK366.out 1
                                  have hfz69_2 := blk_frozen BK366.out 2
                                  have hfz69_3 := blk_frozen BK366.out 3
                                  have hfz69_4 := blk_frozen BK366.out 4
                                  have hnb70 := NB342_367.out
                                  have hnc70 := NB367_342.out
                                  have hcz71_0 : wr.cell? ⟨gb342, 0, none⟩ = some (.bool x343000_2) := (blk_cell BK342.out 0).trans rfl
                                  have hcz71_1 : wr.cell? ⟨gb342, 1, none⟩ = some (.bool x343001_2) := (blk_cell BK342.out 1).trans rfl
                                  have hcz71_2 : wr.cell? ⟨gb342, 2, none⟩ = some (.slice Ao38 x343002_2.length co38) := (blk_cell BK342.out 2).trans rfl
                                  have hcz71_3 : wr.cell? ⟨gb342, 3, none⟩ = some (.int .i64 x343003_2) := (blk_cell BK342.out 3).trans rfl
                                  have hcz71_4 : wr.cell? ⟨gb342, 4, none⟩ = some (.bool x343004_2) := (blk_cell BK342.out 4).trans rfl
                                  have hfz71_0 := blk_frozen BK342.out 0
                                  have hfz71_1 := blk_frozen BK342.out 1
                                  have hfz71_2 := blk_frozen BK342.out 2
                                  have hfz71_3 := blk_frozen BK342.out 3
                                  have hfz71_4 := blk_frozen BK342.out 4
                                  go_wp2_with (first | (go_at_call 21; (with_reducible refine (reprisehelp_Runes.calls k3 _ _ t361 _ _ x343002_2 true _ ?side1 ?side2 ?side3 ?side4 A61.out).mono ?_); (case side1 => repeat (first | exact (Kd.R_reads' HO_367002.out).2.2 | (with_reducible refine Kd.C_alloc ?_ _) | (with_reducible refine Kd.C_drewN ?_ _) | (with_reducible refine Kd.C_drew ?_))); (case side2 => exact (Kd.R_reads' HO_367002.out).2.1); (case side3 => repeat (first | exact (Kd.R_reads' HO_343002.out).2.2 | (with_reducible refine Kd.C_alloc ?_ _) | (with_reducible refine Kd.C_drewN ?_ _) | (with_reducible refine Kd.C_drew ?_))); (case side4 => exact (Kd.R_reads' HO_343002.out).2.1); rintro e w' ⟨rfl, ⟨nd, rfl⟩⟩; have hcz72_0 : wr.cell? ⟨gb367, 0, none⟩ = some (.bool true) := (blk_cell BK367.out 0).trans rfl; have hcz72_1 : wr.cell? ⟨gb367, 1, none⟩ = some (.bool x368001_3) := (blk_cell BK367.out 1).trans rfl; have hcz72_2 : wr.cell? ⟨gb367, 2, none⟩ = some (u368002) := (blk_cell BK367.out 2).trans rfl; have hcz72_3 : wr.cell? ⟨gb367, 3, none⟩ = some (.int .i64 x368003_3) := (blk_cell BK367.out 3).trans rfl; have hcz72_4 : wr.cell? ⟨gb367, 4, none⟩ = some (.bool x368004_3) := (blk_cell BK367.out 4).trans rfl; have hfz72_0 := blk_frozen BK367.out 0; have hfz72_1 := blk_frozen BK367.out 1; have hfz72_2 := blk_frozen BK367.out 2; have hfz72_3 := blk_frozen BK367.out 3; have hfz72_4 := blk_frozen BK367.out 4; obtain ⟨Ao73, co73, eo73⟩ := Kd.R_slice HO_368002.out; subst eo73))
                                  go_ret
                                  exact ⟨by first | rfl | (simp [errW_none, errW_some] <;> rfl) | (simp [*, errW_none, errW_some] <;> rfl), by repeat (first | (with_reducible first | exact HB.out | apply below_alloc | apply pw_below_drewN | apply below_drew1 | refine below_set ?_ GE342.out | refine below_set ?_ GE366.out | refine below_set ?_ GE367.out) | exact HB.out)⟩
                                · replace c66 := Bool.eq_false_iff.mpr c66
                                  subst c66
                                  have H1 : (none) = some r := by rw [if_neg (show ¬ (false = true) by decide)] at H; exact H
                                  clear H
                                  have H := H1
                                  clear H1
                                  exact absurd H (by simp)
                              · rw [if_neg c65] at H
                                exact absurd H (by simp)
                            · rw [if_neg c64] at H
                              exact absurd H (by simp)
                        · replace c62 := Bool.eq_false_iff.mpr c62
                          subst c62
                          have H1 : (none) = some r := by rw [if_neg (show ¬ (false = true) by decide)] at H; exact H
                          clear H
                          have H := H1
                          clear H1
                          exact absurd H (by simp)
                      · rw [if_neg c60] at H
                        exact absurd H (by simp)
  · replace c5 := Bool.eq_false_iff.mpr c5
    subst c5
    have H1 : (none) = some r := by rw [if_neg (show ¬ (false = true) by decide)] at H; exact H
    clear H
    have H := H1
    clear H1
    exact absurd H (by simp)

/-- THE ONE PURE STATEMENT of repriselaw16_SearchRubs: yours. -/
def repriselaw16_SearchRubs.Pure : Prop := ∀ (l0 : List Int) (l1 : List Int) (a2 : Bool), l0.length ≤ maxLen → l0.length * 1 ≤ 140737488351232 → (∀ x ∈ l0, (Lit.int .u8 x).wf = true) → l1.length ≤ maxLen → l1.length * 1 ≤ 140737488351232 → (∀ x ∈ l1, (Lit.int .u8 x).wf = true) → ∃ k, repriselaw16_SearchRubs.f k l0 l1 a2 = some true
theorem repriselaw16_SearchRubs.walk (P : repriselaw16_SearchRubs.Pure) (a0 : Option Addr) (len0 cap0 : Nat) (z0 : List Int) (a1 : Option Addr) (len1 cap1 : Nat) (z1 : List Int) (a2 : Bool) (w : World) (w0 : (a0 = none ∧ len0 = 0 ∧ cap0 = 0 ∧ z0 = []) ∨ ∃ x, a0 = some x ∧ len0 ≤ cap0 ∧ cap0 ≤ maxLen ∧ z0.length = cap0 ∧ (∀ i, i < z0.length → w.cell? (x.add i) = some (.int .u8 (z0.getD i 0))) ∧ ∀ n ∈ z0, (Lit.int .u8 n).wf = true) (y0 : len0 * 1 ≤ 140737488351232) (w1 : (a1 = none ∧ len1 = 0 ∧ cap1 = 0 ∧ z1 = []) ∨ ∃ x, a1 = some x ∧ len1 ≤ cap1 ∧ cap1 ≤ maxLen ∧ z1.length = cap1 ∧ (∀ i, i < z1.length → w.cell? (x.add i) = some (.int .u8 (z1.getD i 0))) ∧ ∀ n ∈ z1, (Lit.int .u8 n).wf = true) (y1 : len1 * 1 ≤ 140737488351232) (hsh : Sh0 w) :
    Calls Try.prog 5 #[.slice a0 len0 cap0, .slice a1 len1 cap1, .bool a2] w fun e w' => e = .returned (.bool true) ∧ Below w.heap.size w w' := by
  obtain ⟨l0, rfl, hr0, hm0, hw0, hc0⟩ := ReadsInt.ofRowC w0
  obtain ⟨l1, rfl, hr1, hm1, hw1, hc1⟩ := ReadsInt.ofRowC w1
  obtain ⟨k, h⟩ := P l0 l1 a2 hm0 y0 hw0 hm1 y1 hw1
  refine (repriselaw16_SearchRubs.calls k _ _ l0 _ _ l1 a2 true w (Kd.C_of_reads (d := (0 : Int)) (h1 := fun _ => rfl) hr0) hc0 (Kd.C_of_reads (d := (0 : Int)) (h1 := fun _ => rfl) hr1) hc1 h).mono ?_
  rintro e w' ⟨rfl, hd⟩
  exact ⟨rfl, hd⟩

end Go.Proofs.Ytoaeibhicbgknaa.QSearchRubs
