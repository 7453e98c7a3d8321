/- Lean functions for the Go functions that the law reaches, and proofs that each call comes to just what its Lean function tells; no condition. (Written by a program of this session.) -/
import Derived.Test.YtoaeibhicbgknaaQSearchPlaysx0
import Derived.Test.YtoaeibhicbgknaaQSearchPlaysx1
import Derived.Test.YtoaeibhicbgknaaQSearchPlaysx2
import Derived.Test.YtoaeibhicbgknaaQSearchPlaysx5
import Derived.Test.YtoaeibhicbgknaaQSearchPlaysx6
import Derived.Test.YtoaeibhicbgknaaQSearchPlaysx7
namespace Go.Proofs.Ytoaeibhicbgknaa.QSearchPlays
open Go.RowKit Go.Proofs.YtoaeibhicbgknaaW.PrintWords Go.Proofs.YtoaeibhicbgknaaW.PrintLast Go.Proofs.YtoaeibhicbgknaaW.PrintMore
attribute [local go_sem] max2_int min2_int max_two min_two max_three min_three max_four min_four   -- for this text's walks alone
set_option linter.unusedVariables false
set_option linter.unusedSimpArgs false

/-! ### repriselaw16_SearchPlays: function 3 -/
mutual
def repriselaw16_SearchPlays.j0 : Nat → List Int → List Int → Bool → Bool → Option (Bool)
  | 0, _, _, _, _ => none
  | k + 1, x0, x1, x2, x21 => if x21 = true then (some true) else ((repriseseat_Hist.f k x0).bind fun t379 => ((repriseref11_Clip.f k t379).bind fun t382 => ((search_Begin.f t382 x2).bind fun bt385 => ((repriseref11_Begin.f t382 x2).bind fun bt392 => (repriselaw16_SearchPlays.l0 k x1 t382 0 bt385.1 bt385.2.1 bt385.2.2.1 bt385.2.2.2.1 bt385.2.2.2.2 bt392.1 bt392.2.1 bt392.2.2.1 bt392.2.2.2.1 bt392.2.2.2.2)))))
def repriselaw16_SearchPlays.l0 : Nat → List Int → List ByteArray → Int → Bool → Bool → List Int → Int → Bool → Bool → Bool → List Int → Int → Bool → Option (Bool)
  | 0, _, _, _, _, _, _, _, _, _, _, _, _, _ => none
  | k + 1, x1, x7, x10, x400000, x400001, x400002, x400003, x400004, x401000, x401001, x401002, x401003, x401004 => if x10 < (x1.length : Int) then (if 0 ≤ x10 then (if (Int.tmod (rd x1 x10) 6) = 0 then (repriselaw16_SearchPlays.j2 k x1 x7 x10 (Int.tmod (rd x1 x10) 6) ((Int.tmod (rd x1 x10) 6) == 0) x400000 x400001 x400002 x400003 x400004 x401000 x401001 x401002 x401003 x401004) else (if (Int.tmod (rd x1 x10) 6) = 1 then (repriselaw16_SearchPlays.j2 k x1 x7 x10 (Int.tmod (rd x1 x10) 6) ((Int.tmod (rd x1 x10) 6) == 1) x400000 x400001 x400002 x400003 x400004 x401000 x401001 x401002 x401003 x401004) else (repriselaw16_SearchPlays.j2 k x1 x7 x10 (Int.tmod (rd x1 x10) 6) ((Int.tmod (rd x1 x10) 6) == 2) x400000 x400001 x400002 x400003 x400004 x401000 x401001 x401002 x401003 x401004))) else (none)) else (some true)
def repriselaw16_SearchPlays.j2 : Nat → List Int → List ByteArray → Int → Int → Bool → Bool → Bool → List Int → Int → Bool → Bool → Bool → List Int → Int → Bool → Option (Bool)
  | 0, _, _, _, _, _, _, _, _, _, _, _, _, _, _, _ => none
  | k + 1, x1, x7, x10, x41, x46, x400000, x400001, x400002, x400003, x400004, x401000, x401001, x401002, x401003, x401004 => if x46 = true then ((some (([102, 111, 98, 97, 32, 120, 233, 28450] : List Int) : List Int)).bind fun y402 => (if 0 ≤ x10 then (if x10 < (x1.length : Int) then (if 0 ≤ (((Int.tdiv (rd x1 x10) 6) % 256) % 8) then (if (((Int.tdiv (rd x1 x10) 6) % 256) % 8) < (y402.length : Int) then ((search_Type.f k x7 x400000 x400001 x400002 x400003 x400004 (rd y402 (((Int.tdiv (rd x1 x10) 6) % 256) % 8))).bind fun bt407 => ((repriseref11_Type.f k x7 x401000 x401001 x401002 x401003 x401004 (rd y402 (((Int.tdiv (rd x1 x10) 6) % 256) % 8))).bind fun bt414 => ((reprisehelp_Search.f k bt407.1 bt407.2.1 bt407.2.2.1 bt407.2.2.2.1 bt407.2.2.2.2 bt414.1 bt414.2.1 bt414.2.2.1 bt414.2.2.2.1 bt414.2.2.2.2).bind fun t421 => (if t421 = true then (repriselaw16_SearchPlays.l0 k x1 x7 (wrap64 (x10 + 1)) bt407.1 bt407.2.1 bt407.2.2.1 bt407.2.2.2.1 bt407.2.2.2.2 bt414.1 bt414.2.1 bt414.2.2.1 bt414.2.2.2.1 bt414.2.2.2.2) else (none))))) else (none)) else (none)) else (none)) else (none))) else (if x41 = 3 then ((search_Again.f k x7 x400000 x400001 x400002 x400003 x400004 true).bind fun bt422 => ((repriseref11_Again.f k x7 x401000 x401001 x401002 x401003 x401004 true).bind fun bt429 => ((reprisehelp_Search.f k bt422.1 bt422.2.1 bt422.2.2.1 bt422.2.2.2.1 bt422.2.2.2.2 bt429.1 bt429.2.1 bt429.2.2.1 bt429.2.2.2.1 bt429.2.2.2.2).bind fun t436 => (if t436 = true then (repriselaw16_SearchPlays.l0 k x1 x7 (wrap64 (x10 + 1)) bt422.1 bt422.2.1 bt422.2.2.1 bt422.2.2.2.1 bt422.2.2.2.2 bt429.1 bt429.2.1 bt429.2.2.1 bt429.2.2.2.1 bt429.2.2.2.2) else (none))))) else (if x41 = 4 then ((search_Again.f k x7 x400000 x400001 x400002 x400003 x400004 false).bind fun bt437 => ((repriseref11_Again.f k x7 x401000 x401001 x401002 x401003 x401004 false).bind fun bt444 => ((reprisehelp_Search.f k bt437.1 bt437.2.1 bt437.2.2.1 bt437.2.2.2.1 bt437.2.2.2.2 bt444.1 bt444.2.1 bt444.2.2.1 bt444.2.2.2.1 bt444.2.2.2.2).bind fun t451 => (if t451 = true then (repriselaw16_SearchPlays.l0 k x1 x7 (wrap64 (x10 + 1)) bt437.1 bt437.2.1 bt437.2.2.1 bt437.2.2.2.1 bt437.2.2.2.2 bt444.1 bt444.2.1 bt444.2.2.1 bt444.2.2.2.1 bt444.2.2.2.2) else (none))))) else ((search_Rub.f x400000 x400001 x400002 x400003 x400004).bind fun bt452 => ((repriseref11_Rub.f x401000 x401001 x401002 x401003 x401004).bind fun bt459 => ((reprisehelp_Search.f k bt452.1 bt452.2.1 bt452.2.2.1 bt452.2.2.2.1 bt452.2.2.2.2 bt459.1 bt459.2.1 bt459.2.2.1 bt459.2.2.2.1 bt459.2.2.2.2).bind fun t466 => (if t466 = true then (repriselaw16_SearchPlays.l0 k x1 x7 (wrap64 (x10 + 1)) bt452.1 bt452.2.1 bt452.2.2.1 bt452.2.2.2.1 bt452.2.2.2.2 bt459.1 bt459.2.1 bt459.2.2.1 bt459.2.2.2.1 bt459.2.2.2.2) else (none)))))))
end
def repriselaw16_SearchPlays.f (k : Nat) (l0 : List Int) (l1 : List Int) (a2 : Bool) : Option (Bool) := (repriselaw16_known.f k).bind fun t378 => (if t378 = true then (if (l0.length : Int) > 30 then (repriselaw16_SearchPlays.j0 k l0 l1 a2 true) else (repriselaw16_SearchPlays.j0 k l0 l1 a2 (decide ((l1.length : Int) > 40)))) else (none))
theorem repriselaw16_SearchPlays.mono_l : ∀ k, (∀ y0 y1 y2 y3, LeO (repriselaw16_SearchPlays.j0 k y0 y1 y2 y3) (repriselaw16_SearchPlays.j0 (k + 1) y0 y1 y2 y3)) ∧ (∀ y0 y1 y2 y3 y4 y5 y6 y7 y8 y9 y10 y11 y12, LeO (repriselaw16_SearchPlays.l0 k y0 y1 y2 y3 y4 y5 y6 y7 y8 y9 y10 y11 y12) (repriselaw16_SearchPlays.l0 (k + 1) y0 y1 y2 y3 y4 y5 y6 y7 y8 y9 y10 y11 y12)) ∧ (∀ y0 y1 y2 y3 y4 y5 y6 y7 y8 y9 y10 y11 y12 y13 y14, LeO (repriselaw16_SearchPlays.j2 k y0 y1 y2 y3 y4 y5 y6 y7 y8 y9 y10 y11 y12 y13 y14) (repriselaw16_SearchPlays.j2 (k + 1) y0 y1 y2 y3 y4 y5 y6 y7 y8 y9 y10 y11 y12 y13 y14))
  | 0 => ⟨fun _ _ _ _ r h => by simp [repriselaw16_SearchPlays.j0] at h, fun _ _ _ _ _ _ _ _ _ _ _ _ _ r h => by simp [repriselaw16_SearchPlays.l0] at h, fun _ _ _ _ _ _ _ _ _ _ _ _ _ _ _ r h => by simp [repriselaw16_SearchPlays.j2] at h⟩
  | k + 1 => by
    obtain ⟨ih0, ih1, ih2⟩ := repriselaw16_SearchPlays.mono_l k
    refine ⟨?_, ?_, ?_⟩
    · intro y0 y1 y2 y3
      unfold repriselaw16_SearchPlays.j0
      repeat' first
      | (with_reducible exact ih0 _ _ _ _)
      | (with_reducible exact ih1 _ _ _ _ _ _ _ _ _ _ _ _ _)
      | (with_reducible exact ih2 _ _ _ _ _ _ _ _ _ _ _ _ _ _ _)
      | (with_reducible exact reprisehelp_Search.mono _ _ _ _ _ _ _ _ _ _ _)
      | (with_reducible exact repriselaw16_known.mono _)
      | (with_reducible exact repriseref11_Again.mono _ _ _ _ _ _ _ _)
      | (with_reducible exact repriseref11_Clip.mono _ _)
      | (with_reducible exact repriseref11_Type.mono _ _ _ _ _ _ _ _)
      | (with_reducible exact repriseseat_Hist.mono _ _)
      | (with_reducible exact search_Again.mono _ _ _ _ _ _ _ _)
      | (with_reducible exact search_Type.mono _ _ _ _ _ _ _ _)
      | (with_reducible exact LeO.refl _)
      | (with_reducible exact LeO.none _)
      | (with_reducible refine LeO.ite ?_ ?_)
      | (with_reducible refine LeO.bind ?_ (fun _ => ?_))
      | exact ih0 _ _ _ _
      | exact ih1 _ _ _ _ _ _ _ _ _ _ _ _ _
      | exact ih2 _ _ _ _ _ _ _ _ _ _ _ _ _ _ _
      | exact reprisehelp_Search.mono _ _ _ _ _ _ _ _ _ _ _
      | exact repriselaw16_known.mono _
      | exact repriseref11_Again.mono _ _ _ _ _ _ _ _
      | exact repriseref11_Clip.mono _ _
      | exact repriseref11_Type.mono _ _ _ _ _ _ _ _
      | exact repriseseat_Hist.mono _ _
      | exact search_Again.mono _ _ _ _ _ _ _ _
      | exact search_Type.mono _ _ _ _ _ _ _ _
      | exact LeO.none _
      | refine LeO.ite ?_ ?_
      | refine LeO.bind ?_ (fun _ => ?_)
    · intro y0 y1 y2 y3 y4 y5 y6 y7 y8 y9 y10 y11 y12
      unfold repriselaw16_SearchPlays.l0
      repeat' first
      | (with_reducible exact ih0 _ _ _ _)
      | (with_reducible exact ih1 _ _ _ _ _ _ _ _ _ _ _ _ _)
      | (with_reducible exact ih2 _ _ _ _ _ _ _ _ _ _ _ _ _ _ _)
      | (with_reducible exact reprisehelp_Search.mono _ _ _ _ _ _ _ _ _ _ _)
      | (with_reducible exact repriselaw16_known.mono _)
      | (with_reducible exact repriseref11_Again.mono _ _ _ _ _ _ _ _)
      | (with_reducible exact repriseref11_Clip.mono _ _)
      | (with_reducible exact repriseref11_Type.mono _ _ _ _ _ _ _ _)
      | (with_reducible exact repriseseat_Hist.mono _ _)
      | (with_reducible exact search_Again.mono _ _ _ _ _ _ _ _)
      | (with_reducible exact search_Type.mono _ _ _ _ _ _ _ _)
      | (with_reducible exact LeO.refl _)
      | (with_reducible exact LeO.none _)
      | (with_reducible refine LeO.ite ?_ ?_)
      | (with_reducible refine LeO.bind ?_ (fun _ => ?_))
      | exact ih0 _ _ _ _
      | exact ih1 _ _ _ _ _ _ _ _ _ _ _ _ _
      | exact ih2 _ _ _ _ _ _ _ _ _ _ _ _ _ _ _
      | exact reprisehelp_Search.mono _ _ _ _ _ _ _ _ _ _ _
      | exact repriselaw16_known.mono _
      | exact repriseref11_Again.mono _ _ _ _ _ _ _ _
      | exact repriseref11_Clip.mono _ _
      | exact repriseref11_Type.mono _ _ _ _ _ _ _ _
      | exact repriseseat_Hist.mono _ _
      | exact search_Again.mono _ _ _ _ _ _ _ _
      | exact search_Type.mono _ _ _ _ _ _ _ _
      | exact LeO.none _
      | refine LeO.ite ?_ ?_
      | refine LeO.bind ?_ (fun _ => ?_)
    · intro y0 y1 y2 y3 y4 y5 y6 y7 y8 y9 y10 y11 y12 y13 y14
      unfold repriselaw16_SearchPlays.j2
      repeat' first
      | (with_reducible exact ih0 _ _ _ _)
      | (with_reducible exact ih1 _ _ _ _ _ _ _ _ _ _ _ _ _)
      | (with_reducible exact ih2 _ _ _ _ _ _ _ _ _ _ _ _ _ _ _)
      | (with_reducible exact reprisehelp_Search.mono _ _ _ _ _ _ _ _ _ _ _)
      | (with_reducible exact repriselaw16_known.mono _)
      | (with_reducible exact repriseref11_Again.mono _ _ _ _ _ _ _ _)
      | (with_reducible exact repriseref11_Clip.mono _ _)
      | (with_reducible exact repriseref11_Type.mono _ _ _ _ _ _ _ _)
      | (with_reducible exact repriseseat_Hist.mono _ _)
      | (with_reducible exact search_Again.mono _ _ _ _ _ _ _ _)
      | (with_reducible exact search_Type.mono _ _ _ _ _ _ _ _)
      | (with_reducible exact LeO.refl _)
      | (with_reducible exact LeO.none _)
      | (with_reducible refine LeO.ite ?_ ?_)
      | (with_reducible refine LeO.bind ?_ (fun _ => ?_))
      | exact ih0 _ _ _ _
      | exact ih1 _ _ _ _ _ _ _ _ _ _ _ _ _
      | exact ih2 _ _ _ _ _ _ _ _ _ _ _ _ _ _ _
      | exact reprisehelp_Search.mono _ _ _ _ _ _ _ _ _ _ _
      | exact repriselaw16_known.mono _
      | exact repriseref11_Again.mono _ _ _ _ _ _ _ _
      | exact repriseref11_Clip.mono _ _
      | exact repriseref11_Type.mono _ _ _ _ _ _ _ _
      | exact repriseseat_Hist.mono _ _
      | exact search_Again.mono _ _ _ _ _ _ _ _
      | exact search_Type.mono _ _ _ _ _ _ _ _
      | exact LeO.none _
      | refine LeO.ite ?_ ?_
      | refine LeO.bind ?_ (fun _ => ?_)
theorem repriselaw16_SearchPlays.mono : ∀ a0 a1 a2 k, LeO (repriselaw16_SearchPlays.f k a0 a1 a2) (repriselaw16_SearchPlays.f (k + 1) a0 a1 a2) := by
  intro a0 a1 a2 k
  obtain ⟨ih0, ih1, ih2⟩ := repriselaw16_SearchPlays.mono_l k
  unfold repriselaw16_SearchPlays.f
  repeat' first
      | (with_reducible exact ih0 _ _ _ _)
      | (with_reducible exact ih1 _ _ _ _ _ _ _ _ _ _ _ _ _)
      | (with_reducible exact ih2 _ _ _ _ _ _ _ _ _ _ _ _ _ _ _)
      | (with_reducible exact reprisehelp_Search.mono _ _ _ _ _ _ _ _ _ _ _)
      | (with_reducible exact repriselaw16_known.mono _)
      | (with_reducible exact repriseref11_Again.mono _ _ _ _ _ _ _ _)
      | (with_reducible exact repriseref11_Clip.mono _ _)
      | (with_reducible exact repriseref11_Type.mono _ _ _ _ _ _ _ _)
      | (with_reducible exact repriseseat_Hist.mono _ _)
      | (with_reducible exact search_Again.mono _ _ _ _ _ _ _ _)
      | (with_reducible exact search_Type.mono _ _ _ _ _ _ _ _)
      | (with_reducible exact LeO.refl _)
      | (with_reducible exact LeO.none _)
      | (with_reducible refine LeO.ite ?_ ?_)
      | (with_reducible refine LeO.bind ?_ (fun _ => ?_))
      | exact ih0 _ _ _ _
      | exact ih1 _ _ _ _ _ _ _ _ _ _ _ _ _
      | exact ih2 _ _ _ _ _ _ _ _ _ _ _ _ _ _ _
      | exact reprisehelp_Search.mono _ _ _ _ _ _ _ _ _ _ _
      | exact repriselaw16_known.mono _
      | exact repriseref11_Again.mono _ _ _ _ _ _ _ _
      | exact repriseref11_Clip.mono _ _
      | exact repriseref11_Type.mono _ _ _ _ _ _ _ _
      | exact repriseseat_Hist.mono _ _
      | exact search_Again.mono _ _ _ _ _ _ _ _
      | exact search_Type.mono _ _ _ _ _ _ _ _
      | exact LeO.none _
      | refine LeO.ite ?_ ?_
      | refine LeO.bind ?_ (fun _ => ?_)
def repriselaw16_SearchPlays.T16 : Bool × List (List Nat × List Nat) := (true, [([], []), ([], []), ([], []), ([0, 1, 2], [0, 1, 2]), ([], []), ([], []), ([], []), ([4, 5, 6, 3], [4, 5, 6]), ([3, 7, 0, 1, 2, 3], [3]), ([7, 8, 0, 1, 2, 3, 4, 5, 6, 7, 8], [7])])
def repriselaw16_SearchPlays.B16 : List Nat := [0, 0, 0, 7, 0, 0, 0, 127, 255, 511]
theorem repriselaw16_SearchPlays.tab16 : rtab .any (opsOf Try.f3 16) = repriselaw16_SearchPlays.T16 := by kernel_rfl
theorem repriselaw16_SearchPlays.bits16 : waitsOk repriselaw16_SearchPlays.T16.2 repriselaw16_SearchPlays.B16 = true := by kernel_rfl
def repriselaw16_SearchPlays.T18 : Bool × List (List Nat × List Nat) := (true, [([], []), ([], []), ([0, 1], [0, 1]), ([], []), ([], []), ([3, 4, 2], [3, 4]), ([2, 5, 0, 1, 2], [2]), ([5, 6, 0, 1, 2, 3, 4, 5, 6], [5])])
def repriselaw16_SearchPlays.B18 : List Nat := [0, 0, 3, 0, 0, 31, 63, 127]
theorem repriselaw16_SearchPlays.tab18 : rtab .any (opsOf Try.f3 18) = repriselaw16_SearchPlays.T18 := by kernel_rfl
theorem repriselaw16_SearchPlays.bits18 : waitsOk repriselaw16_SearchPlays.T18.2 repriselaw16_SearchPlays.B18 = true := by kernel_rfl
def repriselaw16_SearchPlays.T20 : Bool × List (List Nat × List Nat) := (true, [([], []), ([], []), ([0, 1], [0, 1]), ([], []), ([], []), ([3, 4, 2], [3, 4]), ([2, 5, 0, 1, 2], [2]), ([5, 6, 0, 1, 2, 3, 4, 5, 6], [5])])
def repriselaw16_SearchPlays.B20 : List Nat := [0, 0, 3, 0, 0, 31, 63, 127]
theorem repriselaw16_SearchPlays.tab20 : rtab .any (opsOf Try.f3 20) = repriselaw16_SearchPlays.T20 := by kernel_rfl
theorem repriselaw16_SearchPlays.bits20 : waitsOk repriselaw16_SearchPlays.T20.2 repriselaw16_SearchPlays.B20 = true := by kernel_rfl
set_option maxHeartbeats 8000000 in
set_option maxRecDepth 100000 in
theorem repriselaw16_SearchPlays.calls (k : Nat) (A0 : Option Addr) (c0 : Nat) (l0 : List Int) (A1 : Option Addr) (c1 : Nat) (l1 : List Int) (a2 : Bool) (r : Bool) (w : World) (hr0 : Kd.C (Kd.int .u8) w A0 l0.length l0) (hc0 : l0.length ≤ c0) (hr1 : Kd.C (Kd.int .u8) w A1 l1.length l1) (hc1 : l1.length ≤ c1) (h : repriselaw16_SearchPlays.f k l0 l1 a2 = some r) (hsh : Sh0 w := by first | assumption | (with_reducible repeat (first | apply Sh0.drewN | apply Sh0.drew | apply Sh0.alloc | (refine Sh0.set (by assumption) (by assumption) ?_))) <;> first | assumption | exact Sh0.of (by assumption) (by assumption)) :
    Calls Try.prog 3 #[.slice A0 l0.length c0, .slice A1 l1.length c1, .bool a2] w fun e w' => e = .returned (.bool r) ∧ Below w.heap.size w w' := by
  have hu29 := Try.underlying29
  have HR0 := Aside0.mk hr0
  have HC0 := Aside0.mk hc0
  clear hr0 hc0
  have HR1 := Aside0.mk hr1
  have HC1 := Aside0.mk hc1
  clear hr1 hc1
  have HB := Aside0.mk (Below.refl w.heap.size w)
  have H : ((repriselaw16_known.f k).bind fun t378 => (if t378 = true then (if (l0.length : Int) > 30 then (repriselaw16_SearchPlays.j0 k l0 l1 a2 true) else (repriselaw16_SearchPlays.j0 k l0 l1 a2 (decide ((l1.length : Int) > 40)))) else (none))) = some r := h
  clear h
  replace H := Option.bind_eq_some_iff.mp H
  obtain ⟨t378, A40, H⟩ := H
  replace H : (if t378 = true then (if (l0.length : Int) > 30 then (repriselaw16_SearchPlays.j0 k l0 l1 a2 true) else (repriselaw16_SearchPlays.j0 k l0 l1 a2 (decide ((l1.length : Int) > 40)))) else (none)) = some r := H
  have A4 := Aside0.mk A40
  clear A40
  by_cases c5 : t378 = true
  · subst c5
    have H1 : (if (l0.length : Int) > 30 then (repriselaw16_SearchPlays.j0 k l0 l1 a2 true) else (repriselaw16_SearchPlays.j0 k l0 l1 a2 (decide ((l1.length : Int) > 40)))) = some r := by rw [if_pos rfl] at H; exact H
    clear H
    have H := H1
    clear H1
    have HC6 := Aside0.mk H
    clear H
    go_enter Try.func3, Try.ntmps3
    go_upto_region 3 with (first | ((with_reducible refine gate_callee (f := 6) rfl ?_); refine goesL_ (some 12) rfl rfl Try.func6 (by kernel_rfl) rfl #[] rfl (by (try simp only [List.map_toArray, List.map_cons, List.map_nil]); first | done | rfl | (simp only [List.length_drop, List.length_take]; rfl)) ?_; (with_reducible refine (repriselaw16_known.calls k  true _ A4.out).mono ?_); rintro e w7 ⟨rfl, hb⟩; refine ⟨_, rfl, ?_⟩; have n0_ := Aside0.mk (below_step (by repeat (first | (with_reducible first | exact HB.out | apply below_alloc | apply pw_below_drewN | apply below_drew1) | exact HB.out)) hb); clear HB; have HB := n0_; clear n0_; (try clear hb); (try clear hb2); (try clear hk); (try clear hi)))
    (try simp only [Act.put, List.setIfInBounds_toArray, List.set_cons_zero, List.set_cons_succ])
    go_cut [21] (fun v21 wc => ∃ (kq : Nat) (x21_5 : Bool), v21 = .bool x21_5 ∧ Aside0 (repriselaw16_SearchPlays.j0 kq l0 l1 a2 x21_5 = some r) ∧ Aside0 (kq ≤ k) ∧ Aside0 (Below w.heap.size w wc))
    case first =>
      have H := HC6.out
      clear HC6
      by_cases c8 : (l0.length : Int) > 30
      · rw [if_pos c8] at H
        have c8b0 : decide (30 < (l0.length : Int)) = true := decide_eq_true c8
        have c8b1 : decide (30 < l0.length) = true := decide_eq_true (by omega)
        clear c8
        (first | rw [c8b0] | (simp only [i64_w, i32_w]; rw [c8b0]) | skip)
        have H' := Aside0.mk H
        clear H
        go_wp2
        go_meet
        case rel => exact ⟨_, (true), (by first | rfl | (simp; done) | (simp [*]; done)), H', ⟨by first | omega | exact Nat.le_refl _⟩, ⟨by repeat (first | (with_reducible first | exact HB.out | apply below_alloc | apply pw_below_drewN | apply below_drew1) | exact HB.out)⟩⟩
      · rw [if_neg c8] at H
        have c8b0 : decide (30 < (l0.length : Int)) = false := decide_eq_false c8
        have c8b1 : decide (30 < l0.length) = false := decide_eq_false (by omega)
        clear c8
        (first | rw [c8b0] | (simp only [i64_w, i32_w]; rw [c8b0]) | skip)
        have H' := Aside0.mk H
        clear H
        go_wp2
        go_meet
        case rel => exact ⟨_, (decide ((l1.length : Int) > 40)), (by first | rfl | (simp; done) | (simp [*]; done)), H', ⟨by first | omega | exact Nat.le_refl _⟩, ⟨by repeat (first | (with_reducible first | exact HB.out | apply below_alloc | apply pw_below_drewN | apply below_drew1) | exact HB.out)⟩⟩
    case rest =>
      clear HC6
      try clear c1
      try clear p2
      try clear c3
      try clear c5
      try clear c6
      try clear c8
      try clear c8b0
      try clear c8b1
      obtain ⟨kq, x21_5, rfl, HA, HJ5, HB⟩ := hcut
      cases kq with
      | zero => exact absurd HA.out (by simp [repriselaw16_SearchPlays.j0])
      | succ kj5 =>
        have H := HA.out
        clear HA
        simp only [repriselaw16_SearchPlays.j0] at H
        by_cases c9 : x21_5 = true
        · subst c9
          have H1 : (some true) = some r := by rw [if_pos rfl] at H; exact H
          clear H
          have H := H1
          clear H1
          obtain rfl := Option.some.inj H
          go_wp2
          go_ret
          exact ⟨by first | rfl | (simp [errW_none, errW_some] <;> rfl) | (simp [*, errW_none, errW_some] <;> rfl), by repeat (first | (with_reducible first | exact HB.out | apply below_alloc | apply pw_below_drewN | apply below_drew1) | exact HB.out)⟩
        · replace c9 := Bool.eq_false_iff.mpr c9
          subst c9
          have H1 : ((repriseseat_Hist.f kj5 l0).bind fun t379 => ((repriseref11_Clip.f kj5 t379).bind fun t382 => ((search_Begin.f t382 a2).bind fun bt385 => ((repriseref11_Begin.f t382 a2).bind fun bt392 => (repriselaw16_SearchPlays.l0 kj5 l1 t382 0 bt385.1 bt385.2.1 bt385.2.2.1 bt385.2.2.2.1 bt385.2.2.2.2 bt392.1 bt392.2.1 bt392.2.2.1 bt392.2.2.2.1 bt392.2.2.2.2))))) = some r := by rw [if_neg (show ¬ (false = true) by decide)] at H; exact H
          clear H
          have H := H1
          clear H1
          replace H := Option.bind_eq_some_iff.mp H
          obtain ⟨t379, A100, H⟩ := H
          replace H : ((repriseref11_Clip.f kj5 t379).bind fun t382 => ((search_Begin.f t382 a2).bind fun bt385 => ((repriseref11_Begin.f t382 a2).bind fun bt392 => (repriselaw16_SearchPlays.l0 kj5 l1 t382 0 bt385.1 bt385.2.1 bt385.2.2.1 bt385.2.2.2.1 bt385.2.2.2.2 bt392.1 bt392.2.1 bt392.2.2.1 bt392.2.2.2.1 bt392.2.2.2.2)))) = some r := H
          have A10 := Aside0.mk A100
          clear A100
          replace H := Option.bind_eq_some_iff.mp H
          obtain ⟨t382, A110, H⟩ := H
          replace H : ((search_Begin.f t382 a2).bind fun bt385 => ((repriseref11_Begin.f t382 a2).bind fun bt392 => (repriselaw16_SearchPlays.l0 kj5 l1 t382 0 bt385.1 bt385.2.1 bt385.2.2.1 bt385.2.2.2.1 bt385.2.2.2.2 bt392.1 bt392.2.1 bt392.2.2.1 bt392.2.2.2.1 bt392.2.2.2.2))) = some r := H
          have A11 := Aside0.mk A110
          clear A110
          replace H := Option.bind_eq_some_iff.mp H
          obtain ⟨⟨t385, t386, t387, t390, t391⟩, A120, H⟩ := H
          replace H : ((repriseref11_Begin.f t382 a2).bind fun bt392 => (repriselaw16_SearchPlays.l0 kj5 l1 t382 0 t385 t386 t387 t390 t391 bt392.1 bt392.2.1 bt392.2.2.1 bt392.2.2.2.1 bt392.2.2.2.2)) = some r := H
          have A12 := Aside0.mk A120
          clear A120
          replace H := Option.bind_eq_some_iff.mp H
          obtain ⟨⟨t392, t393, t394, t397, t398⟩, A130, H⟩ := H
          replace H : (repriselaw16_SearchPlays.l0 kj5 l1 t382 0 t385 t386 t387 t390 t391 t392 t393 t394 t397 t398) = some r := H
          have A13 := Aside0.mk A130
          clear A130
          have H' := Aside0.mk H
          clear H
          go_wp2_with (first | ((with_reducible refine gate_callee (f := 8) rfl ?_); refine goesL_ (some 23) rfl rfl Try.func8 (by kernel_rfl) rfl #[.slice A0 l0.length c0] rfl (by (try simp only [List.map_toArray, List.map_cons, List.map_nil]); first | done | rfl | (simp only [List.length_drop, List.length_take]; rfl)) ?_; (with_reducible refine (repriseseat_Hist.calls kj5 _ _ l0 t379 _ ?side1 ?side2 A10.out).mono ?_); (case side1 => repeat (first | exact (Kd.C_below HR0.out HB.out) | (with_reducible refine Kd.C_alloc ?_ _) | (with_reducible refine Kd.C_drewN ?_ _) | (with_reducible refine Kd.C_drew ?_))); (case side2 => exact HC0.out); rintro e w14 ⟨v380, rfl, ho0, hb⟩; refine ⟨_, rfl, ?_⟩; have n0_ := Aside0.mk (Kd.R_lower ho0 (below_size (by repeat (first | (with_reducible first | exact HB.out | apply below_alloc | apply pw_below_drewN | apply below_drew1) | exact HB.out)))); have n1_ := Aside0.mk (below_step (by repeat (first | (with_reducible first | exact HB.out | apply below_alloc | apply pw_below_drewN | apply below_drew1) | exact HB.out)) hb); clear HB; have HO381 := n0_; have HB := n1_; clear n0_ n1_; (try clear hb); (try clear hb2); (try clear hk); (try clear hi); (try clear ho0); obtain ⟨Ao15, co15, eo15⟩ := Kd.R_slice HO381.out; subst eo15) | ((with_reducible refine gate_callee (f := 7) rfl ?_); refine goesL_ (some 24) rfl rfl Try.func7 (by kernel_rfl) rfl #[.slice Ao15 t379.length co15] rfl (by (try simp only [List.map_toArray, List.map_cons, List.map_nil]); first | done | rfl | (simp only [List.length_drop, List.length_take]; rfl)) ?_; (with_reducible refine (repriseref11_Clip.calls kj5 _ _ t379 t382 _ ?side1 ?side2 A11.out).mono ?_); (case side1 => repeat (first | exact (Kd.R_reads' HO381.out).2.2 | (with_reducible refine Kd.C_alloc ?_ _) | (with_reducible refine Kd.C_drewN ?_ _) | (with_reducible refine Kd.C_drew ?_))); (case side2 => exact (Kd.R_reads' HO381.out).2.1); rintro e w16 ⟨v383, rfl, ho0, hb⟩; refine ⟨_, rfl, ?_⟩; have n0_ := Aside0.mk (Kd.R_elder' (by (with_reducible repeat (first | apply Kd.R_alloc | apply Kd.R_drewN | apply Kd.R_drew)); exact HO381.out) (Kd.Q_base ho0) hb); have n1_ := Aside0.mk (Kd.Q_lower (Kd.Q_new' ho0 (Kd.R_lt (by (with_reducible repeat (first | apply Kd.R_alloc | apply Kd.R_drewN | apply Kd.R_drew)); exact HO381.out))) (below_size (by repeat (first | (with_reducible first | exact HB.out | apply below_alloc | apply pw_below_drewN | apply below_drew1) | exact HB.out)))); have n2_ := Aside0.mk (below_step (by repeat (first | (with_reducible first | exact HB.out | apply below_alloc | apply pw_below_drewN | apply below_drew1) | exact HB.out)) hb); clear HO381; clear HB; have HO381 := n0_; have HO384 := n1_; have HB := n2_; clear n0_ n1_ n2_; (try clear hb); (try clear hb2); (try clear hk); (try clear hi); (try clear ho0); obtain ⟨Ao17, co17, eo17, _⟩ := Kd.Q_slice HO384.out; subst eo17) | ((with_reducible refine gate_callee (f := 9) rfl ?_); refine goesL_ (some 27) rfl rfl Try.func9 (by kernel_rfl) rfl #[.slice Ao17 t382.length co17, .bool a2] rfl (by (try simp only [List.map_toArray, List.map_cons, List.map_nil]); first | done | rfl | (simp only [List.length_drop, List.length_take]; rfl)) ?_; (with_reducible refine (search_Begin.calls _ _ t382 a2 t385 t386 t387 t390 t391 _ ?side1 ?side2 A12.out).mono ?_); (case side1 => repeat (first | exact (Kd.Q_reads' HO384.out).2.2 | (with_reducible refine Kd.C_alloc ?_ _) | (with_reducible refine Kd.C_drewN ?_ _) | (with_reducible refine Kd.C_drew ?_))); (case side2 => exact (Kd.Q_reads' HO384.out).2.1); rintro e w18 ⟨v388, rfl, ho0, hb⟩; refine ⟨_, rfl, ?_⟩; have n0_ := Aside0.mk (Kd.R_below (by (with_reducible repeat (first | apply Kd.R_alloc | apply Kd.R_drewN | apply Kd.R_drew)); exact HO381.out) hb); have n1_ := Aside0.mk (Kd.Q_below (by (with_reducible repeat (first | apply Kd.Q_alloc | apply Kd.Q_drewN | apply Kd.Q_drew)); exact HO384.out) hb); have n2_ := Aside0.mk (Kd.R_lower ho0 (below_size (by repeat (first | (with_reducible first | exact HB.out | apply below_alloc | apply pw_below_drewN | apply below_drew1) | exact HB.out)))); have n3_ := Aside0.mk (below_step (by repeat (first | (with_reducible first | exact HB.out | apply below_alloc | apply pw_below_drewN | apply below_drew1) | exact HB.out)) hb); clear HO381; clear HO384; clear HB; have HO381 := n0_; have HO384 := n1_; have HO389 := n2_; have HB := n3_; clear n0_ n1_ n2_ n3_; (try clear hb); (try clear hb2); (try clear hk); (try clear hi); (try clear ho0)) | ((with_reducible refine gate_callee (f := 10) rfl ?_); refine goesL_ (some 30) rfl rfl Try.func10 (by kernel_rfl) rfl #[.slice Ao17 t382.length co17, .bool a2] rfl (by (try simp only [List.map_toArray, List.map_cons, List.map_nil]); first | done | rfl | (simp only [List.length_drop, List.length_take]; rfl)) ?_; (with_reducible refine (repriseref11_Begin.calls _ _ t382 a2 t392 t393 t394 t397 t398 _ ?side1 ?side2 A13.out).mono ?_); (case side1 => repeat (first | exact (Kd.Q_reads' HO384.out).2.2 | (with_reducible refine Kd.C_alloc ?_ _) | (with_reducible refine Kd.C_drewN ?_ _) | (with_reducible refine Kd.C_drew ?_))); (case side2 => exact (Kd.Q_reads' HO384.out).2.1); rintro e w19 ⟨v395, rfl, ho0, hb⟩; refine ⟨_, rfl, ?_⟩; have n0_ := Aside0.mk (Kd.R_below (by (with_reducible repeat (first | apply Kd.R_alloc | apply Kd.R_drewN | apply Kd.R_drew)); exact HO381.out) hb); have n1_ := Aside0.mk (Kd.Q_below (by (with_reducible repeat (first | apply Kd.Q_alloc | apply Kd.Q_drewN | apply Kd.Q_drew)); exact HO384.out) hb); have n2_ := Aside0.mk (Kd.R_elder' (by (with_reducible repeat (first | apply Kd.R_alloc | apply Kd.R_drewN | apply Kd.R_drew)); exact HO389.out) (Kd.R_base ho0) hb); have n3_ := Aside0.mk (Kd.R_lower (Kd.R_new' ho0 (Kd.R_lt (by (with_reducible repeat (first | apply Kd.R_alloc | apply Kd.R_drewN | apply Kd.R_drew)); exact HO389.out))) (below_size (by repeat (first | (with_reducible first | exact HB.out | apply below_alloc | apply pw_below_drewN | apply below_drew1) | exact HB.out)))); have n4_ := Aside0.mk (below_step (by repeat (first | (with_reducible first | exact HB.out | apply below_alloc | apply pw_below_drewN | apply below_drew1) | exact HB.out)) hb); clear HO381; clear HO384; clear HO389; clear HB; have HO381 := n0_; have HO384 := n1_; have HO389 := n2_; have HO396 := n3_; have HB := n4_; clear n0_ n1_ n2_ n3_ n4_; (try clear hb); (try clear hb2); (try clear hk); (try clear hi); (try clear ho0)) | ((with_reducible refine gate_dst (N := 8) rfl ?_); (try (refine gate_guard (by rfl) ?_; dsimp only)); refine box_event ?hg (N := 8) ?hd (cs := #[.bool false, .bool false, .slice none 0 0, .int .i64 0, .bool false]) (t := 29) ?hr ?_; (case hd => rfl); (case hg => rfl); (case hr => first | (go_simp; done) | (go_simp; rfl)); intro gb399 hg w20 hbox hb; have n0_ := Aside0.mk (Kd.R_below (by (with_reducible repeat (first | apply Kd.R_alloc | apply Kd.R_drewN | apply Kd.R_drew)); exact HO381.out) hb); have n1_ := Aside0.mk (Kd.Q_below (by (with_reducible repeat (first | apply Kd.Q_alloc | apply Kd.Q_drewN | apply Kd.Q_drew)); exact HO384.out) hb); have n2_ := Aside0.mk (Kd.R_below (by (with_reducible repeat (first | apply Kd.R_alloc | apply Kd.R_drewN | apply Kd.R_drew)); exact HO389.out) hb); have n3_ := Aside0.mk (Kd.R_below (by (with_reducible repeat (first | apply Kd.R_alloc | apply Kd.R_drewN | apply Kd.R_drew)); exact HO396.out) hb); have n4_ := Aside0.mk (below_step (by repeat (first | (with_reducible first | exact HB.out | apply below_alloc | apply pw_below_drewN | apply below_drew1) | exact HB.out)) hb); have n5_ := Aside0.mk (hbox); have n6_ := Aside0.mk ((by rw [hg]; exact (below_size (by repeat (first | (with_reducible first | exact HB.out | apply below_alloc | apply pw_below_drewN | apply below_drew1) | exact HB.out))) : w.heap.size ≤ gb399)); have n7_ := Aside0.mk ((by rw [hg]; exact (below_size (by repeat (first | (with_reducible first | exact HB.out | apply below_alloc | apply pw_below_drewN | apply below_drew1) | exact HB.out))) : w.heap.size ≤ gb399)); clear HO381; clear HO384; clear HO389; clear HO396; clear HB; have HO381 := n0_; have HO384 := n1_; have HO389 := n2_; have HO396 := n3_; have HB := n4_; have BK399 := n5_; have GW399 := n6_; have GE399 := n7_; clear n0_ n1_ n2_ n3_ n4_ n5_ n6_ n7_; clear hb hbox hg) | ((with_reducible refine gate_dst (N := 9) rfl ?_); (try (refine gate_guard (by rfl) ?_; dsimp only)); refine box_event ?hg (N := 9) ?hd (cs := #[.bool false, .bool false, .slice none 0 0, .int .i64 0, .bool false]) (t := 29) ?hr ?_; (case hd => rfl); (case hg => rfl); (case hr => first | (go_simp; done) | (go_simp; rfl)); intro gb400 hg w21 hbox hb; have n0_ := Aside0.mk (Kd.R_below (by (with_reducible repeat (first | apply Kd.R_alloc | apply Kd.R_drewN | apply Kd.R_drew)); exact HO381.out) hb); have n1_ := Aside0.mk (Kd.Q_below (by (with_reducible repeat (first | apply Kd.Q_alloc | apply Kd.Q_drewN | apply Kd.Q_drew)); exact HO384.out) hb); have n2_ := Aside0.mk (Kd.R_below (by (with_reducible repeat (first | apply Kd.R_alloc | apply Kd.R_drewN | apply Kd.R_drew)); exact HO389.out) hb); have n3_ := Aside0.mk (Kd.R_below (by (with_reducible repeat (first | apply Kd.R_alloc | apply Kd.R_drewN | apply Kd.R_drew)); exact HO396.out) hb); have n4_ := Aside0.mk (blk_below (g := gb399) (o := .cells #[.bool false, .bool false, .slice none 0 0, .int .i64 0, .bool false] 29 (0, 0)) (by (with_reducible repeat (first | refine blk_drewN ?_ _ | refine blk_drew ?_ | refine blk_alloc ?_ _)); exact BK399.out) hb); have n5_ := Aside0.mk (below_step (by repeat (first | (with_reducible first | exact HB.out | apply below_alloc | apply pw_below_drewN | apply below_drew1 | refine below_set ?_ GE399.out) | exact HB.out)) hb); have n6_ := Aside0.mk (hbox); have n7_ := Aside0.mk ((by rw [hg]; exact (below_size (by repeat (first | (with_reducible first | exact HB.out | apply below_alloc | apply pw_below_drewN | apply below_drew1 | refine below_set ?_ GE399.out) | exact HB.out))) : w.heap.size ≤ gb400)); have n8_ := Aside0.mk ((by rw [hg]; exact (below_size (by repeat (first | (with_reducible first | exact HB.out | apply below_alloc | apply pw_below_drewN | apply below_drew1 | refine below_set ?_ GE399.out) | exact HB.out))) : w.heap.size ≤ gb400)); have n9_ := Aside0.mk ((by rw [hg]; exact Nat.ne_of_lt (blk_lt (g := gb399) (o := .cells #[.bool false, .bool false, .slice none 0 0, .int .i64 0, .bool false] 29 (0, 0)) (by (with_reducible repeat (first | refine blk_drewN ?_ _ | refine blk_drew ?_ | refine blk_alloc ?_ _)); exact BK399.out)) : gb399 ≠ gb400)); have n10_ := Aside0.mk ((by rw [hg]; exact Nat.ne_of_gt (blk_lt (g := gb399) (o := .cells #[.bool false, .bool false, .slice none 0 0, .int .i64 0, .bool false] 29 (0, 0)) (by (with_reducible repeat (first | refine blk_drewN ?_ _ | refine blk_drew ?_ | refine blk_alloc ?_ _)); exact BK399.out)) : gb400 ≠ gb399)); clear HO381; clear HO384; clear HO389; clear HO396; clear BK399; clear HB; have HO381 := n0_; have HO384 := n1_; have HO389 := n2_; have HO396 := n3_; have BK399 := n4_; have HB := n5_; have BK400 := n6_; have GW400 := n7_; have GE400 := n8_; have NB399_400 := n9_; have NB400_399 := n10_; clear n0_ n1_ n2_ n3_ n4_ n5_ n6_ n7_ n8_ n9_ n10_; clear hb hbox hg; have hnb22 := NB399_400.out; have hnc22 := NB400_399.out; have hcz23_0 : w21.cell? ⟨gb399, 0, none⟩ = some (.bool false) := (blk_cell BK399.out 0).trans rfl; have hcz23_1 : w21.cell? ⟨gb399, 1, none⟩ = some (.bool false) := (blk_cell BK399.out 1).trans rfl; have hcz23_2 : w21.cell? ⟨gb399, 2, none⟩ = some (.slice none 0 0) := (blk_cell BK399.out 2).trans rfl; have hcz23_3 : w21.cell? ⟨gb399, 3, none⟩ = some (.int .i64 0) := (blk_cell BK399.out 3).trans rfl; have hcz23_4 : w21.cell? ⟨gb399, 4, none⟩ = some (.bool false) := (blk_cell BK399.out 4).trans rfl; have hfz23_0 := blk_frozen BK399.out 0; have hfz23_1 := blk_frozen BK399.out 1; have hfz23_2 := blk_frozen BK399.out 2; have hfz23_3 := blk_frozen BK399.out 3; have hfz23_4 := blk_frozen BK399.out 4; obtain ⟨Ao24, co24, eo24⟩ := Kd.R_slice HO389.out; subst eo24; have hcz25_0 : w21.cell? ⟨gb400, 0, none⟩ = some (.bool false) := (blk_cell BK400.out 0).trans rfl; have hcz25_1 : w21.cell? ⟨gb400, 1, none⟩ = some (.bool false) := (blk_cell BK400.out 1).trans rfl; have hcz25_2 : w21.cell? ⟨gb400, 2, none⟩ = some (.slice none 0 0) := (blk_cell BK400.out 2).trans rfl; have hcz25_3 : w21.cell? ⟨gb400, 3, none⟩ = some (.int .i64 0) := (blk_cell BK400.out 3).trans rfl; have hcz25_4 : w21.cell? ⟨gb400, 4, none⟩ = some (.bool false) := (blk_cell BK400.out 4).trans rfl; have hfz25_0 := blk_frozen BK400.out 0; have hfz25_1 := blk_frozen BK400.out 1; have hfz25_2 := blk_frozen BK400.out 2; have hfz25_3 := blk_frozen BK400.out 3; have hfz25_4 := blk_frozen BK400.out 4; obtain ⟨Ao26, co26, eo26⟩ := Kd.R_slice HO396.out; subst eo26) | ((with_reducible refine gate_store (t := 29) (p := 9) rfl ?_); refine store_event (t := 29) (p := 9) (v := ?vo_w27) (w1 := ((((((((((w21.setCell ⟨gb399, 0, none⟩ (.bool t385)).setCell ⟨gb399, 1, none⟩ (.bool t386)).setCell ⟨gb399, 2, none⟩ (.slice Ao24 t387.length co24)).setCell ⟨gb399, 3, none⟩ (.int .i64 t390)).setCell ⟨gb399, 4, none⟩ (.bool t391)).setCell ⟨gb400, 0, none⟩ (.bool t392)).setCell ⟨gb400, 1, none⟩ (.bool t393)).setCell ⟨gb400, 2, none⟩ (.slice Ao26 t394.length co26)).setCell ⟨gb400, 3, none⟩ (.int .i64 t397)).setCell ⟨gb400, 4, none⟩ (.bool t398))) ?hg ?ho ?hn ?hr ?_; (case ho => rfl); (case hg => rfl); (case hn => rfl); (case hr => first | (go_simp; done) | (go_simp; rfl)); intro w27 hw; have n0_ : Aside0 (Kd.R Kd.string 9 w27 w.heap.size (fun k_ => some k_ ≠ (.slice Ao17 t382.length co17 : Value).ownBlock) (.slice Ao15 t379.length co15) t379) := ⟨(by rw [hw]; exact (by (with_reducible repeat (first | apply Kd.R_alloc | apply Kd.R_drewN | apply Kd.R_drew)); exact Kd.R_mono (Kd.R_far (p := ⟨gb400, 4, none⟩) (Kd.R_far (p := ⟨gb400, 3, none⟩) (Kd.R_far (p := ⟨gb400, 2, none⟩) (Kd.R_far (p := ⟨gb400, 1, none⟩) (Kd.R_far (p := ⟨gb400, 0, none⟩) (Kd.R_far (p := ⟨gb399, 4, none⟩) (Kd.R_far (p := ⟨gb399, 3, none⟩) (Kd.R_far (p := ⟨gb399, 2, none⟩) (Kd.R_far (p := ⟨gb399, 1, none⟩) (Kd.R_far (p := ⟨gb399, 0, none⟩) (Kd.R_types (Kd.R_types HO381.out BK399.out (by decide)) BK400.out (by decide)) (fun _ hk => hk.1.2) (.bool t385)) (fun _ hk => hk.1.2) (.bool t386)) (fun _ hk => hk.1.2) (.slice Ao24 t387.length co24)) (fun _ hk => hk.1.2) (.int .i64 t390)) (fun _ hk => hk.1.2) (.bool t391)) (fun _ hk => hk.2) (.bool t392)) (fun _ hk => hk.2) (.bool t393)) (fun _ hk => hk.2) (.slice Ao26 t394.length co26)) (fun _ hk => hk.2) (.int .i64 t397)) (fun _ hk => hk.2) (.bool t398)) (fun _ hk => hk.1.1.2)))⟩; have n1_ : Aside0 (Kd.Q Kd.string 9 w27 w.heap.size (fun k_ => some k_ ≠ (.slice Ao15 t379.length co15 : Value).ownBlock) (.slice Ao17 t382.length co17) t382) := ⟨(by rw [hw]; exact (by (with_reducible repeat (first | apply Kd.Q_alloc | apply Kd.Q_drewN | apply Kd.Q_drew)); exact Kd.Q_mono (Kd.Q_far (p := ⟨gb400, 4, none⟩) (Kd.Q_far (p := ⟨gb400, 3, none⟩) (Kd.Q_far (p := ⟨gb400, 2, none⟩) (Kd.Q_far (p := ⟨gb400, 1, none⟩) (Kd.Q_far (p := ⟨gb400, 0, none⟩) (Kd.Q_far (p := ⟨gb399, 4, none⟩) (Kd.Q_far (p := ⟨gb399, 3, none⟩) (Kd.Q_far (p := ⟨gb399, 2, none⟩) (Kd.Q_far (p := ⟨gb399, 1, none⟩) (Kd.Q_far (p := ⟨gb399, 0, none⟩) (Kd.Q_types (Kd.Q_types HO384.out BK399.out (by decide)) BK400.out (by decide)) (fun _ hk => hk.1.2) (.bool t385)) (fun _ hk => hk.1.2) (.bool t386)) (fun _ hk => hk.1.2) (.slice Ao24 t387.length co24)) (fun _ hk => hk.1.2) (.int .i64 t390)) (fun _ hk => hk.1.2) (.bool t391)) (fun _ hk => hk.2) (.bool t392)) (fun _ hk => hk.2) (.bool t393)) (fun _ hk => hk.2) (.slice Ao26 t394.length co26)) (fun _ hk => hk.2) (.int .i64 t397)) (fun _ hk => hk.2) (.bool t398)) (fun _ hk => hk.1.1.2)))⟩; have n2_ : Aside0 (Kd.R (Kd.int .i32) 21 w27 w.heap.size (fun k_ => some k_ ≠ (.slice Ao26 t394.length co26 : Value).ownBlock) (.slice Ao24 t387.length co24) t387) := ⟨(by rw [hw]; exact (by (with_reducible repeat (first | apply Kd.R_alloc | apply Kd.R_drewN | apply Kd.R_drew)); exact Kd.R_mono (Kd.R_far (p := ⟨gb400, 4, none⟩) (Kd.R_far (p := ⟨gb400, 3, none⟩) (Kd.R_far (p := ⟨gb400, 2, none⟩) (Kd.R_far (p := ⟨gb400, 1, none⟩) (Kd.R_far (p := ⟨gb400, 0, none⟩) (Kd.R_far (p := ⟨gb399, 4, none⟩) (Kd.R_far (p := ⟨gb399, 3, none⟩) (Kd.R_far (p := ⟨gb399, 2, none⟩) (Kd.R_far (p := ⟨gb399, 1, none⟩) (Kd.R_far (p := ⟨gb399, 0, none⟩) (Kd.R_types (Kd.R_types HO389.out BK399.out (by decide)) BK400.out (by decide)) (fun _ hk => hk.1.2) (.bool t385)) (fun _ hk => hk.1.2) (.bool t386)) (fun _ hk => hk.1.2) (.slice Ao24 t387.length co24)) (fun _ hk => hk.1.2) (.int .i64 t390)) (fun _ hk => hk.1.2) (.bool t391)) (fun _ hk => hk.2) (.bool t392)) (fun _ hk => hk.2) (.bool t393)) (fun _ hk => hk.2) (.slice Ao26 t394.length co26)) (fun _ hk => hk.2) (.int .i64 t397)) (fun _ hk => hk.2) (.bool t398)) (fun _ hk => hk.1.1.2)))⟩; have n3_ : Aside0 (Kd.R (Kd.int .i32) 21 w27 w.heap.size (fun k_ => some k_ ≠ (.slice Ao24 t387.length co24 : Value).ownBlock) (.slice Ao26 t394.length co26) t394) := ⟨(by rw [hw]; exact (by (with_reducible repeat (first | apply Kd.R_alloc | apply Kd.R_drewN | apply Kd.R_drew)); exact Kd.R_mono (Kd.R_far (p := ⟨gb400, 4, none⟩) (Kd.R_far (p := ⟨gb400, 3, none⟩) (Kd.R_far (p := ⟨gb400, 2, none⟩) (Kd.R_far (p := ⟨gb400, 1, none⟩) (Kd.R_far (p := ⟨gb400, 0, none⟩) (Kd.R_far (p := ⟨gb399, 4, none⟩) (Kd.R_far (p := ⟨gb399, 3, none⟩) (Kd.R_far (p := ⟨gb399, 2, none⟩) (Kd.R_far (p := ⟨gb399, 1, none⟩) (Kd.R_far (p := ⟨gb399, 0, none⟩) (Kd.R_types (Kd.R_types HO396.out BK399.out (by decide)) BK400.out (by decide)) (fun _ hk => hk.1.2) (.bool t385)) (fun _ hk => hk.1.2) (.bool t386)) (fun _ hk => hk.1.2) (.slice Ao24 t387.length co24)) (fun _ hk => hk.1.2) (.int .i64 t390)) (fun _ hk => hk.1.2) (.bool t391)) (fun _ hk => hk.2) (.bool t392)) (fun _ hk => hk.2) (.bool t393)) (fun _ hk => hk.2) (.slice Ao26 t394.length co26)) (fun _ hk => hk.2) (.int .i64 t397)) (fun _ hk => hk.2) (.bool t398)) (fun _ hk => hk.1.1.2)))⟩; have n4_ : Aside0 (w27.heap[gb399]? = some (.cells #[.bool t385, .bool t386, .slice Ao24 t387.length co24, .int .i64 t390, .bool t391] 29 (0, 0))) := ⟨(by rw [hw]; exact (by (with_reducible repeat (first | refine blk_drewN ?_ _ | refine blk_drew ?_ | refine blk_alloc ?_ _)); refine blk_far ?_ NB399_400.out _; (with_reducible repeat (first | refine blk_drewN ?_ _ | refine blk_drew ?_ | refine blk_alloc ?_ _)); refine blk_far ?_ NB399_400.out _; (with_reducible repeat (first | refine blk_drewN ?_ _ | refine blk_drew ?_ | refine blk_alloc ?_ _)); refine blk_far ?_ NB399_400.out _; (with_reducible repeat (first | refine blk_drewN ?_ _ | refine blk_drew ?_ | refine blk_alloc ?_ _)); refine blk_far ?_ NB399_400.out _; (with_reducible repeat (first | refine blk_drewN ?_ _ | refine blk_drew ?_ | refine blk_alloc ?_ _)); refine blk_far ?_ NB399_400.out _; (with_reducible repeat (first | refine blk_drewN ?_ _ | refine blk_drew ?_ | refine blk_alloc ?_ _)); refine blk_put (cs := #[.bool t385, .bool t386, .slice Ao24 t387.length co24, .int .i64 t390, .bool false]) ?_ 4 _ rfl; (with_reducible repeat (first | refine blk_drewN ?_ _ | refine blk_drew ?_ | refine blk_alloc ?_ _)); refine blk_put (cs := #[.bool t385, .bool t386, .slice Ao24 t387.length co24, .int .i64 0, .bool false]) ?_ 3 _ rfl; (with_reducible repeat (first | refine blk_drewN ?_ _ | refine blk_drew ?_ | refine blk_alloc ?_ _)); refine blk_put (cs := #[.bool t385, .bool t386, .slice none 0 0, .int .i64 0, .bool false]) ?_ 2 _ rfl; (with_reducible repeat (first | refine blk_drewN ?_ _ | refine blk_drew ?_ | refine blk_alloc ?_ _)); refine blk_put (cs := #[.bool t385, .bool false, .slice none 0 0, .int .i64 0, .bool false]) ?_ 1 _ rfl; (with_reducible repeat (first | refine blk_drewN ?_ _ | refine blk_drew ?_ | refine blk_alloc ?_ _)); refine blk_put (cs := #[.bool false, .bool false, .slice none 0 0, .int .i64 0, .bool false]) ?_ 0 _ rfl; (with_reducible repeat (first | refine blk_drewN ?_ _ | refine blk_drew ?_ | refine blk_alloc ?_ _)); exact BK399.out))⟩; have n5_ : Aside0 (w27.heap[gb400]? = some (.cells #[.bool t392, .bool t393, .slice Ao26 t394.length co26, .int .i64 t397, .bool t398] 29 (0, 0))) := ⟨(by rw [hw]; exact (by (with_reducible repeat (first | refine blk_drewN ?_ _ | refine blk_drew ?_ | refine blk_alloc ?_ _)); refine blk_put (cs := #[.bool t392, .bool t393, .slice Ao26 t394.length co26, .int .i64 t397, .bool false]) ?_ 4 _ rfl; (with_reducible repeat (first | refine blk_drewN ?_ _ | refine blk_drew ?_ | refine blk_alloc ?_ _)); refine blk_put (cs := #[.bool t392, .bool t393, .slice Ao26 t394.length co26, .int .i64 0, .bool false]) ?_ 3 _ rfl; (with_reducible repeat (first | refine blk_drewN ?_ _ | refine blk_drew ?_ | refine blk_alloc ?_ _)); refine blk_put (cs := #[.bool t392, .bool t393, .slice none 0 0, .int .i64 0, .bool false]) ?_ 2 _ rfl; (with_reducible repeat (first | refine blk_drewN ?_ _ | refine blk_drew ?_ | refine blk_alloc ?_ _)); refine blk_put (cs := #[.bool t392, .bool false, .slice none 0 0, .int .i64 0, .bool false]) ?_ 1 _ rfl; (with_reducible repeat (first | refine blk_drewN ?_ _ | refine blk_drew ?_ | refine blk_alloc ?_ _)); refine blk_put (cs := #[.bool false, .bool false, .slice none 0 0, .int .i64 0, .bool false]) ?_ 0 _ rfl; (with_reducible repeat (first | refine blk_drewN ?_ _ | refine blk_drew ?_ | refine blk_alloc ?_ _)); refine blk_far ?_ NB400_399.out _; (with_reducible repeat (first | refine blk_drewN ?_ _ | refine blk_drew ?_ | refine blk_alloc ?_ _)); refine blk_far ?_ NB400_399.out _; (with_reducible repeat (first | refine blk_drewN ?_ _ | refine blk_drew ?_ | refine blk_alloc ?_ _)); refine blk_far ?_ NB400_399.out _; (with_reducible repeat (first | refine blk_drewN ?_ _ | refine blk_drew ?_ | refine blk_alloc ?_ _)); refine blk_far ?_ NB400_399.out _; (with_reducible repeat (first | refine blk_drewN ?_ _ | refine blk_drew ?_ | refine blk_alloc ?_ _)); refine blk_far ?_ NB400_399.out _; (with_reducible repeat (first | refine blk_drewN ?_ _ | refine blk_drew ?_ | refine blk_alloc ?_ _)); exact BK400.out))⟩; have n6_ : Aside0 (Below w.heap.size w w27) := ⟨(by rw [hw]; exact (by repeat (first | (with_reducible first | exact HB.out | apply below_alloc | apply pw_below_drewN | apply below_drew1 | refine below_set ?_ GE399.out | refine below_set ?_ GE400.out) | exact HB.out)))⟩; clear hw; clear HO381; clear HO384; clear HO389; clear HO396; clear BK399; clear BK400; clear HB; have HO381 := n0_; have HO384 := n1_; have HO389 := n2_; have HO396 := n3_; have BK399 := n4_; have BK400 := n5_; have HB := n6_; clear n0_ n1_ n2_ n3_ n4_ n5_ n6_))
          go_loopg [10] kj5 (fun kq v10 w' => ∃ (x10_2 : Int) (x400000_2 : Bool) (x400001_2 : Bool) (x400002_2 : List Int) (x400003_2 : Int) (x400004_2 : Bool) (x401000_2 : Bool) (x401001_2 : Bool) (x401002_2 : List Int) (x401003_2 : Int) (x401004_2 : Bool) (u400002 : Value) (u401002 : Value), v10 = .int .i64 x10_2 ∧ Aside0 (repriselaw16_SearchPlays.l0 kq l1 t382 x10_2 x400000_2 x400001_2 x400002_2 x400003_2 x400004_2 x401000_2 x401001_2 x401002_2 x401003_2 x401004_2 = some r) ∧ Aside0 (kq ≤ kj5) ∧ Aside0 (Kd.Q Kd.string 9 w' w.heap.size (fun _ => True) (.slice Ao17 t382.length co17) t382) ∧ Aside0 (Kd.R (Kd.int .i32) 21 w' w.heap.size (fun k_ => some k_ ≠ (u401002 : Value).ownBlock) u400002 x400002_2) ∧ Aside0 (Kd.R (Kd.int .i32) 21 w' w.heap.size (fun k_ => some k_ ≠ (u400002 : Value).ownBlock) u401002 x401002_2) ∧ Aside0 (w'.heap[gb399]? = some (.cells #[.bool x400000_2, .bool x400001_2, u400002, .int .i64 x400003_2, .bool x400004_2] 29 (0, 0))) ∧ Aside0 (w'.heap[gb400]? = some (.cells #[.bool x401000_2, .bool x401001_2, u401002, .int .i64 x401003_2, .bool x401004_2] 29 (0, 0))) ∧ Aside0 (Below w.heap.size w w'))
          case atStart => exact ⟨(0), (t385), (t386), (t387), (t390), (t391), (t392), (t393), (t394), (t397), (t398), (.slice Ao24 t387.length co24), (.slice Ao26 t394.length co26), (by first | rfl | (simp; done) | (simp [*]; done)), H', ⟨Nat.le_refl _⟩, ⟨by (with_reducible repeat (first | apply Kd.Q_alloc | apply Kd.Q_drewN | apply Kd.Q_drew)); exact Kd.Q_mono HO384.out (fun _ hk => trivial)⟩, ⟨by (with_reducible repeat (first | apply Kd.R_alloc | apply Kd.R_drewN | apply Kd.R_drew)); exact HO389.out⟩, ⟨by (with_reducible repeat (first | apply Kd.R_alloc | apply Kd.R_drewN | apply Kd.R_drew)); exact HO396.out⟩, ⟨by (with_reducible repeat (first | refine blk_drewN ?_ _ | refine blk_drew ?_ | refine blk_alloc ?_ _)); exact BK399.out⟩, ⟨by (with_reducible repeat (first | refine blk_drewN ?_ _ | refine blk_drew ?_ | refine blk_alloc ?_ _)); exact BK400.out⟩, ⟨by repeat (first | (with_reducible first | exact HB.out | apply below_alloc | apply pw_below_drewN | apply below_drew1 | refine below_set ?_ GE399.out | refine below_set ?_ GE400.out) | exact HB.out)⟩⟩
          case round =>
            clear H'
            try clear c1
            try clear c2
            try clear p2
            try clear c3
            try clear c5
            try clear c6
            try clear c7
            try clear c8
            try clear c8b0
            try clear c8b1
            try clear c9
            try clear c10
            try clear c22
            try clear hcz23_0
            try clear hcz23_1
            try clear hcz23_2
            try clear hcz23_3
            try clear hcz23_4
            try clear hcz25_0
            try clear hcz25_1
            try clear hcz25_2
            try clear hcz25_3
            try clear hcz25_4
            try clear hfz23_0
            try clear hfz23_1
            try clear hfz23_2
            try clear hfz23_3
            try clear hfz23_4
            try clear hfz25_0
            try clear hfz25_1
            try clear hfz25_2
            try clear hfz25_3
            try clear hfz25_4
            try clear p2
            obtain ⟨x10_2, x400000_2, x400001_2, x400002_2, x400003_2, x400004_2, x401000_2, x401001_2, x401002_2, x401003_2, x401004_2, u400002, u401002, rfl, HA, HK2, HO_7, HO_400002, HO_401002, BK399, BK400, HB⟩ := hrel
            cases gk with
            | zero => exact absurd HA.out (by simp [repriselaw16_SearchPlays.l0])
            | succ k2 =>
              have H := HA.out
              clear HA
              simp only [repriselaw16_SearchPlays.l0] at H
              by_cases c28 : x10_2 < (l1.length : Int)
              · rw [if_pos c28] at H
                have c28b0 : decide (x10_2 < (l1.length : Int)) = true := decide_eq_true c28
                clear c28
                by_cases c29 : 0 ≤ x10_2
                · rw [if_pos c29] at H
                  have c29b0 : decide (0 ≤ x10_2) = true := decide_eq_true c29
                  clear c29
                  have HC30 := Aside0.mk H
                  clear H
                  have p401 : 0 ≤ (x10_2 : Int) := of_decide_eq_true (by first | (with_reducible assumption) | assumption)
                  have q401 : x10_2 < (l1.length : Int) := of_decide_eq_true (by first | (with_reducible assumption) | assumption)
                  obtain ⟨ad401, e401, hx401_0⟩ := Kd.at_int HR1.out x10_2 p401 q401
                  cases e401
                  replace hx401_0 := (HB.out.cell (World.block_lt_of_cell? w _ hx401_0)).trans hx401_0
                  replace p401 := eq_true p401
                  replace q401 := eq_true q401
                  go_upto_if 46 with (fail)
                  go_cut [46] (fun v46 wc => ∃ (kq : Nat) (x46_29 : Bool), v46 = .bool x46_29 ∧ Aside0 (repriselaw16_SearchPlays.j2 kq l1 t382 x10_2 (Int.tmod (rd l1 x10_2) 6) x46_29 x400000_2 x400001_2 x400002_2 x400003_2 x400004_2 x401000_2 x401001_2 x401002_2 x401003_2 x401004_2 = some r) ∧ Aside0 (kq ≤ k2) ∧ Aside0 (Kd.Q Kd.string 9 wc w.heap.size (fun _ => True) (.slice Ao17 t382.length co17) t382) ∧ Aside0 (Kd.R (Kd.int .i32) 21 wc w.heap.size (fun k_ => some k_ ≠ (u401002 : Value).ownBlock) u400002 x400002_2) ∧ Aside0 (Kd.R (Kd.int .i32) 21 wc w.heap.size (fun k_ => some k_ ≠ (u400002 : Value).ownBlock) u401002 x401002_2) ∧ Aside0 (wc.heap[gb399]? = some (.cells #[.bool x400000_2, .bool x400001_2, u400002, .int .i64 x400003_2, .bool x400004_2] 29 (0, 0))) ∧ Aside0 (wc.heap[gb400]? = some (.cells #[.bool x401000_2, .bool x401001_2, u401002, .int .i64 x401003_2, .bool x401004_2] 29 (0, 0))) ∧ Aside0 (Below w.heap.size w wc))
                  case first =>
                    have H := HC30.out
                    clear HC30
                    by_cases c31 : (Int.tmod (rd l1 x10_2) 6) = 0
                    · rw [if_pos c31] at H
                      have c31b0 : ((Int.tmod (rd l1 x10_2) 6) == 0) = true := beq_iff_eq.mpr c31
                      have c31b1 : ((Int.tmod (rd l1 x10_2) 6) != 0) = false := bne_eq_false_iff_eq.mpr c31
                      clear c31
                      (first | rw [c31b0] | (simp only [i64_w, i32_w]; rw [c31b0]) | skip)
                      have H' := Aside0.mk H
                      clear H
                      go_wp2
                      go_meet
                      case rel => exact ⟨_, (((Int.tmod (rd l1 x10_2) 6) == 0)), (by first | rfl | (simp; done) | (simp [*]; done)), H', ⟨by have := HJ5.out; have := HK2.out; first | omega | exact Nat.le_refl _⟩, ⟨by (with_reducible repeat (first | apply Kd.Q_alloc | apply Kd.Q_drewN | apply Kd.Q_drew)); exact HO_7.out⟩, ⟨by (with_reducible repeat (first | apply Kd.R_alloc | apply Kd.R_drewN | apply Kd.R_drew)); exact HO_400002.out⟩, ⟨by (with_reducible repeat (first | apply Kd.R_alloc | apply Kd.R_drewN | apply Kd.R_drew)); exact HO_401002.out⟩, ⟨by (with_reducible repeat (first | refine blk_drewN ?_ _ | refine blk_drew ?_ | refine blk_alloc ?_ _)); exact BK399.out⟩, ⟨by (with_reducible repeat (first | refine blk_drewN ?_ _ | refine blk_drew ?_ | refine blk_alloc ?_ _)); exact BK400.out⟩, ⟨by repeat (first | (with_reducible first | exact HB.out | apply below_alloc | apply pw_below_drewN | apply below_drew1 | refine below_set ?_ GE399.out | refine below_set ?_ GE400.out) | exact HB.out)⟩⟩
                    · rw [if_neg c31] at H
                      have c31b0 : ((Int.tmod (rd l1 x10_2) 6) == 0) = false := beq_eq_false_iff_ne.mpr c31
                      have c31b1 : ((Int.tmod (rd l1 x10_2) 6) != 0) = true := bne_iff_ne.mpr c31
                      (first | rw [c31b0] | (simp only [i64_w, i32_w]; rw [c31b0]) | skip)
                      by_cases c32 : (Int.tmod (rd l1 x10_2) 6) = 1
                      · rw [if_pos c32] at H
                        have c32b0 : ((Int.tmod (rd l1 x10_2) 6) == 1) = true := beq_iff_eq.mpr c32
                        have c32b1 : ((Int.tmod (rd l1 x10_2) 6) != 1) = false := bne_eq_false_iff_eq.mpr c32
                        clear c32
                        have H' := Aside0.mk H
                        clear H
                        go_wp2
                        go_meet
                        case rel => exact ⟨_, (((Int.tmod (rd l1 x10_2) 6) == 1)), (by first | rfl | (simp; done) | (simp [*]; done)), H', ⟨by have := HJ5.out; have := HK2.out; first | omega | exact Nat.le_refl _⟩, ⟨by (with_reducible repeat (first | apply Kd.Q_alloc | apply Kd.Q_drewN | apply Kd.Q_drew)); exact HO_7.out⟩, ⟨by (with_reducible repeat (first | apply Kd.R_alloc | apply Kd.R_drewN | apply Kd.R_drew)); exact HO_400002.out⟩, ⟨by (with_reducible repeat (first | apply Kd.R_alloc | apply Kd.R_drewN | apply Kd.R_drew)); exact HO_401002.out⟩, ⟨by (with_reducible repeat (first | refine blk_drewN ?_ _ | refine blk_drew ?_ | refine blk_alloc ?_ _)); exact BK399.out⟩, ⟨by (with_reducible repeat (first | refine blk_drewN ?_ _ | refine blk_drew ?_ | refine blk_alloc ?_ _)); exact BK400.out⟩, ⟨by repeat (first | (with_reducible first | exact HB.out | apply below_alloc | apply pw_below_drewN | apply below_drew1 | refine below_set ?_ GE399.out | refine below_set ?_ GE400.out) | exact HB.out)⟩⟩
                      · rw [if_neg c32] at H
                        have c32b0 : ((Int.tmod (rd l1 x10_2) 6) == 1) = false := beq_eq_false_iff_ne.mpr c32
                        have c32b1 : ((Int.tmod (rd l1 x10_2) 6) != 1) = true := bne_iff_ne.mpr c32
                        have H' := Aside0.mk H
                        clear H
                        go_wp2
                        go_meet
                        case rel => exact ⟨_, (((Int.tmod (rd l1 x10_2) 6) == 2)), (by first | rfl | (simp; done) | (simp [*]; done)), H', ⟨by have := HJ5.out; have := HK2.out; first | omega | exact Nat.le_refl _⟩, ⟨by (with_reducible repeat (first | apply Kd.Q_alloc | apply Kd.Q_drewN | apply Kd.Q_drew)); exact HO_7.out⟩, ⟨by (with_reducible repeat (first | apply Kd.R_alloc | apply Kd.R_drewN | apply Kd.R_drew)); exact HO_400002.out⟩, ⟨by (with_reducible repeat (first | apply Kd.R_alloc | apply Kd.R_drewN | apply Kd.R_drew)); exact HO_401002.out⟩, ⟨by (with_reducible repeat (first | refine blk_drewN ?_ _ | refine blk_drew ?_ | refine blk_alloc ?_ _)); exact BK399.out⟩, ⟨by (with_reducible repeat (first | refine blk_drewN ?_ _ | refine blk_drew ?_ | refine blk_alloc ?_ _)); exact BK400.out⟩, ⟨by repeat (first | (with_reducible first | exact HB.out | apply below_alloc | apply pw_below_drewN | apply below_drew1 | refine below_set ?_ GE399.out | refine below_set ?_ GE400.out) | exact HB.out)⟩⟩
                  case rest =>
                    clear HC30
                    try clear c1
                    try clear c2
                    try clear p2
                    try clear c3
                    try clear p4
                    try clear q4
                    try clear hx4
                    try clear c5
                    try clear c6
                    try clear c7
                    try clear c8
                    try clear c8b0
                    try clear c8b1
                    try clear c9
                    try clear c10
                    try clear c22
                    try clear c28
                    try clear c28b0
                    try clear c29
                    try clear c29b0
                    try clear c31
                    try clear c31b0
                    try clear c31b1
                    try clear c32
                    try clear c32b0
                    try clear c32b1
                    try clear hcz23_0
                    try clear hcz23_1
                    try clear hcz23_2
                    try clear hcz23_3
                    try clear hcz23_4
                    try clear hcz25_0
                    try clear hcz25_1
                    try clear hcz25_2
                    try clear hcz25_3
                    try clear hcz25_4
                    try clear hfz23_0
                    try clear hfz23_1
                    try clear hfz23_2
                    try clear hfz23_3
                    try clear hfz23_4
                    try clear hfz25_0
                    try clear hfz25_1
                    try clear hfz25_2
                    try clear hfz25_3
                    try clear hfz25_4
                    try clear hx401_0
                    try clear p2
                    try clear p401
                    try clear q401
                    obtain ⟨kq, x46_29, rfl, HA, HJ29, HO_7, HO_400002, HO_401002, BK399, BK400, HB⟩ := hcut
                    cases kq with
                    | zero => exact absurd HA.out (by simp [repriselaw16_SearchPlays.j2])
                    | succ kj29 =>
                      have H := HA.out
                      clear HA
                      simp only [repriselaw16_SearchPlays.j2] at H
                      by_cases c33 : x46_29 = true
                      · subst c33
                        have H1 : ((some (([102, 111, 98, 97, 32, 120, 233, 28450] : List Int) : List Int)).bind fun y402 => (if 0 ≤ x10_2 then (if x10_2 < (l1.length : Int) then (if 0 ≤ (((Int.tdiv (rd l1 x10_2) 6) % 256) % 8) then (if (((Int.tdiv (rd l1 x10_2) 6) % 256) % 8) < (y402.length : Int) then ((search_Type.f kj29 t382 x400000_2 x400001_2 x400002_2 x400003_2 x400004_2 (rd y402 (((Int.tdiv (rd l1 x10_2) 6) % 256) % 8))).bind fun bt407 => ((repriseref11_Type.f kj29 t382 x401000_2 x401001_2 x401002_2 x401003_2 x401004_2 (rd y402 (((Int.tdiv (rd l1 x10_2) 6) % 256) % 8))).bind fun bt414 => ((reprisehelp_Search.f kj29 bt407.1 bt407.2.1 bt407.2.2.1 bt407.2.2.2.1 bt407.2.2.2.2 bt414.1 bt414.2.1 bt414.2.2.1 bt414.2.2.2.1 bt414.2.2.2.2).bind fun t421 => (if t421 = true then (repriselaw16_SearchPlays.l0 kj29 l1 t382 (wrap64 (x10_2 + 1)) bt407.1 bt407.2.1 bt407.2.2.1 bt407.2.2.2.1 bt407.2.2.2.2 bt414.1 bt414.2.1 bt414.2.2.1 bt414.2.2.2.1 bt414.2.2.2.2) else (none))))) else (none)) else (none)) else (none)) else (none))) = some r := by rw [if_pos rfl] at H; exact H
                        clear H
                        have H := H1
                        clear H1
                        obtain ⟨y402, hy402⟩ : ∃ y_ : List Int, y_ = (([102, 111, 98, 97, 32, 120, 233, 28450] : List Int)) := ⟨_, rfl⟩
                        replace H : (if 0 ≤ x10_2 then (if x10_2 < (l1.length : Int) then (if 0 ≤ (((Int.tdiv (rd l1 x10_2) 6) % 256) % 8) then (if (((Int.tdiv (rd l1 x10_2) 6) % 256) % 8) < (y402.length : Int) then ((search_Type.f kj29 t382 x400000_2 x400001_2 x400002_2 x400003_2 x400004_2 (rd y402 (((Int.tdiv (rd l1 x10_2) 6) % 256) % 8))).bind fun bt407 => ((repriseref11_Type.f kj29 t382 x401000_2 x401001_2 x401002_2 x401003_2 x401004_2 (rd y402 (((Int.tdiv (rd l1 x10_2) 6) % 256) % 8))).bind fun bt414 => ((reprisehelp_Search.f kj29 bt407.1 bt407.2.1 bt407.2.2.1 bt407.2.2.2.1 bt407.2.2.2.2 bt414.1 bt414.2.1 bt414.2.2.1 bt414.2.2.2.1 bt414.2.2.2.2).bind fun t421 => (if t421 = true then (repriselaw16_SearchPlays.l0 kj29 l1 t382 (wrap64 (x10_2 + 1)) bt407.1 bt407.2.1 bt407.2.2.1 bt407.2.2.2.1 bt407.2.2.2.2 bt414.1 bt414.2.1 bt414.2.2.1 bt414.2.2.2.1 bt414.2.2.2.2) else (none))))) else (none)) else (none)) else (none)) else (none)) = some r := by first | (rw [hy402]; with_reducible exact H) | (have H2_ := (Option.bind_some _ _).symm.trans H; rw [hy402]; with_reducible exact H2_) | (have H2_ := (Option.bind_some _ _).symm.trans H; with_reducible exact H2_) | with_reducible exact H | (rw [hy402]; exact H) | exact H
                        have Ny402 := Aside0.mk hy402
                        clear hy402
                        by_cases c34 : 0 ≤ x10_2
                        · rw [if_pos c34] at H
                          have c34b0 : decide (0 ≤ x10_2) = true := decide_eq_true c34
                          clear c34
                          by_cases c35 : x10_2 < (l1.length : Int)
                          · rw [if_pos c35] at H
                            have c35b0 : decide (x10_2 < (l1.length : Int)) = true := decide_eq_true c35
                            clear c35
                            obtain ⟨ji36, hji36⟩ : ∃ j_ : Int, (((Int.tdiv (rd l1 x10_2) 6) % 256) % 8) = j_ := ⟨_, rfl⟩
                            replace H : (if 0 ≤ (ji36) then (if (ji36) < (y402.length : Int) then ((search_Type.f kj29 t382 x400000_2 x400001_2 x400002_2 x400003_2 x400004_2 (rd y402 (ji36))).bind fun bt407 => ((repriseref11_Type.f kj29 t382 x401000_2 x401001_2 x401002_2 x401003_2 x401004_2 (rd y402 (ji36))).bind fun bt414 => ((reprisehelp_Search.f kj29 bt407.1 bt407.2.1 bt407.2.2.1 bt407.2.2.2.1 bt407.2.2.2.2 bt414.1 bt414.2.1 bt414.2.2.1 bt414.2.2.2.1 bt414.2.2.2.2).bind fun t421 => (if t421 = true then (repriselaw16_SearchPlays.l0 kj29 l1 t382 (wrap64 (x10_2 + 1)) bt407.1 bt407.2.1 bt407.2.2.1 bt407.2.2.2.1 bt407.2.2.2.2 bt414.1 bt414.2.1 bt414.2.2.1 bt414.2.2.2.1 bt414.2.2.2.2) else (none))))) else (none)) else (none)) = some r := by first | (rw [hji36] at H; exact H) | (simp only [hji36] at H ⊢; exact H)
                            by_cases c37 : 0 ≤ (ji36)
                            · rw [if_pos c37] at H
                              have c37b0 : decide (0 ≤ (ji36)) = true := decide_eq_true c37
                              clear c37
                              by_cases c38 : (ji36) < (y402.length : Int)
                              · rw [if_pos c38] at H
                                have c38b0 : decide ((ji36) < (y402.length : Int)) = true := decide_eq_true c38
                                clear c38
                                replace H := Option.bind_eq_some_iff.mp H
                                obtain ⟨⟨t407, t408, t409, t412, t413⟩, A390, H⟩ := H
                                replace H : ((repriseref11_Type.f kj29 t382 x401000_2 x401001_2 x401002_2 x401003_2 x401004_2 (rd y402 (ji36))).bind fun bt414 => ((reprisehelp_Search.f kj29 t407 t408 t409 t412 t413 bt414.1 bt414.2.1 bt414.2.2.1 bt414.2.2.2.1 bt414.2.2.2.2).bind fun t421 => (if t421 = true then (repriselaw16_SearchPlays.l0 kj29 l1 t382 (wrap64 (x10_2 + 1)) t407 t408 t409 t412 t413 bt414.1 bt414.2.1 bt414.2.2.1 bt414.2.2.2.1 bt414.2.2.2.2) else (none)))) = some r := H
                                have A39 := Aside0.mk A390
                                clear A390
                                replace H := Option.bind_eq_some_iff.mp H
                                obtain ⟨⟨t414, t415, t416, t419, t420⟩, A400, H⟩ := H
                                replace H : ((reprisehelp_Search.f kj29 t407 t408 t409 t412 t413 t414 t415 t416 t419 t420).bind fun t421 => (if t421 = true then (repriselaw16_SearchPlays.l0 kj29 l1 t382 (wrap64 (x10_2 + 1)) t407 t408 t409 t412 t413 t414 t415 t416 t419 t420) else (none))) = some r := H
                                have A40 := Aside0.mk A400
                                clear A400
                                replace H := Option.bind_eq_some_iff.mp H
                                obtain ⟨t421, A410, H⟩ := H
                                replace H : (if t421 = true then (repriselaw16_SearchPlays.l0 kj29 l1 t382 (wrap64 (x10_2 + 1)) t407 t408 t409 t412 t413 t414 t415 t416 t419 t420) else (none)) = some r := H
                                have A41 := Aside0.mk A410
                                clear A410
                                by_cases c42 : t421 = true
                                · subst c42
                                  have H1 : (repriselaw16_SearchPlays.l0 kj29 l1 t382 (wrap64 (x10_2 + 1)) t407 t408 t409 t412 t413 t414 t415 t416 t419 t420) = some r := by rw [if_pos rfl] at H; exact H
                                  clear H
                                  have H := H1
                                  clear H1
                                  have H' := Aside0.mk H
                                  clear H
                                  try go_wp2_with (first | ((with_reducible refine gate_dst (N := 50) rfl ?_); (try (refine gate_guard (by rfl) ?_; dsimp only)); refine Kd.R_lit (Kd.int .i32) _ 21 ?hg (N := 50) ?hd (xs := ([102, 111, 98, 97, 32, 120, 233, 28450] : List Int)) (inner := [.int .i32 102, .int .i32 111, .int .i32 98, .int .i32 97, .int .i32 32, .int .i32 120, .int .i32 233, .int .i32 28450]) (ok := fun _ => True) (okp := fun _ => True) ?hr ?hp (fun _ hk => hk) trivial (Below.refl _ _) (Nat.le_refl _) (by simp) ?_; (case hd => rfl); (case hg => rfl); (case hr => first | (go_simp; done) | (go_simp; rfl)); (case hp => exact (Reps.one (show Kd.M (Kd.int .i32) _ _ _ 102 [.int .i32 102] from rfl) (Reps.one (show Kd.M (Kd.int .i32) _ _ _ 111 [.int .i32 111] from rfl) (Reps.one (show Kd.M (Kd.int .i32) _ _ _ 98 [.int .i32 98] from rfl) (Reps.one (show Kd.M (Kd.int .i32) _ _ _ 97 [.int .i32 97] from rfl) (Reps.one (show Kd.M (Kd.int .i32) _ _ _ 32 [.int .i32 32] from rfl) (Reps.one (show Kd.M (Kd.int .i32) _ _ _ 120 [.int .i32 120] from rfl) (Reps.one (show Kd.M (Kd.int .i32) _ _ _ 233 [.int .i32 233] from rfl) (Reps.one (show Kd.M (Kd.int .i32) _ _ _ 28450 [.int .i32 28450] from rfl) (Reps.none _ _)))))))))); intro v403 w43 ho44 hb hg_ hnew_; clear hg_ hnew_; (first | rw [← Ny402.out] at ho44 | (simp only [Int.reduceToNat] at ho44; rw [← Ny402.out] at ho44)); have n0_ := Aside0.mk (Kd.Q_below (by (with_reducible repeat (first | apply Kd.Q_alloc | apply Kd.Q_drewN | apply Kd.Q_drew)); exact HO_7.out) hb); have n1_ := Aside0.mk (Kd.R_elder' (by (with_reducible repeat (first | apply Kd.R_alloc | apply Kd.R_drewN | apply Kd.R_drew)); exact HO_400002.out) (Kd.R_base ho44) hb); have n2_ := Aside0.mk (Kd.R_elder' (by (with_reducible repeat (first | apply Kd.R_alloc | apply Kd.R_drewN | apply Kd.R_drew)); exact HO_401002.out) (Kd.R_base ho44) hb); have n3_ := Aside0.mk (Kd.R_lower (Kd.R_new' (Kd.R_new' ho44 (Kd.R_lt (by (with_reducible repeat (first | apply Kd.R_alloc | apply Kd.R_drewN | apply Kd.R_drew)); exact HO_400002.out))) (Kd.R_lt (by (with_reducible repeat (first | apply Kd.R_alloc | apply Kd.R_drewN | apply Kd.R_drew)); exact HO_401002.out))) (below_size (by repeat (first | (with_reducible first | exact HB.out | apply below_alloc | apply pw_below_drewN | apply below_drew1 | refine below_set ?_ GE399.out | refine below_set ?_ GE400.out) | exact HB.out)))); have n4_ := Aside0.mk (blk_below (g := gb399) (o := .cells #[.bool x400000_2, .bool x400001_2, u400002, .int .i64 x400003_2, .bool x400004_2] 29 (0, 0)) (by (with_reducible repeat (first | refine blk_drewN ?_ _ | refine blk_drew ?_ | refine blk_alloc ?_ _)); exact BK399.out) hb); have n5_ := Aside0.mk (blk_below (g := gb400) (o := .cells #[.bool x401000_2, .bool x401001_2, u401002, .int .i64 x401003_2, .bool x401004_2] 29 (0, 0)) (by (with_reducible repeat (first | refine blk_drewN ?_ _ | refine blk_drew ?_ | refine blk_alloc ?_ _)); exact BK400.out) hb); have n6_ := Aside0.mk (below_step (by repeat (first | (with_reducible first | exact HB.out | apply below_alloc | apply pw_below_drewN | apply below_drew1 | refine below_set ?_ GE399.out | refine below_set ?_ GE400.out) | exact HB.out)) hb); clear HO_7; clear HO_400002; clear HO_401002; clear BK399; clear BK400; clear HB; have HO_7 := n0_; have HO_400002 := n1_; have HO_401002 := n2_; have HO404 := n3_; have BK399 := n4_; have BK400 := n5_; have HB := n6_; clear n0_ n1_ n2_ n3_ n4_ n5_ n6_; clear hb ho44; have p405 : 0 ≤ (x10_2 : Int) := of_decide_eq_true (by first | (with_reducible assumption) | assumption); have q405 : x10_2 < (l1.length : Int) := of_decide_eq_true (by first | (with_reducible assumption) | assumption); obtain ⟨ad405, e405, hx405_0⟩ := Kd.at_int HR1.out x10_2 p405 q405; obtain rfl : ad401 = ad405 := (by injection e405); replace hx405_0 := (HB.out.cell (World.block_lt_of_cell? w _ hx405_0)).trans hx405_0; replace p405 := eq_true p405; replace q405 := eq_true q405; obtain ⟨Ao45, co45, eo45⟩ := Kd.R_slice HO404.out; subst eo45; have p406 : 0 ≤ ((ji36) : Int) := of_decide_eq_true (by first | (with_reducible assumption) | assumption); have q406 : (ji36) < (y402.length : Int) := of_decide_eq_true (by first | (with_reducible assumption) | assumption); obtain ⟨ad406, e406, hx406_0⟩ := Kd.at_int (Kd.R_reads' HO404.out).2.2 (ji36) p406 q406; cases e406; replace p406 := eq_true p406; replace q406 := eq_true q406))
                                  have n0_ := Aside0.mk (Kd.Q_drew HO_7.out)
                                  have n1_ := Aside0.mk (Kd.R_drew HO_400002.out)
                                  have n2_ := Aside0.mk (Kd.R_drew HO_401002.out)
                                  have n3_ := Aside0.mk (Kd.R_drew HO404.out)
                                  have n4_ := Aside0.mk (blk_drew BK399.out)
                                  have n5_ := Aside0.mk (blk_drew BK400.out)
                                  have n6_ := Aside0.mk (below_drew1 HB.out)
                                  clear HO_7
                                  clear HO_400002
                                  clear HO_401002
                                  clear HO404
                                  clear BK399
                                  clear BK400
                                  clear HB
                                  have HO_7 := n0_
                                  have HO_400002 := n1_
                                  have HO_401002 := n2_
                                  have HO404 := n3_
                                  have BK399 := n4_
                                  have BK400 := n5_
                                  have HB := n6_
                                  clear n0_ n1_ n2_ n3_ n4_ n5_ n6_
                                  obtain ⟨Ao47, co47, eo47⟩ := Kd.R_slice HO_400002.out
                                  (first | subst eo47 | (injection eo47 with f1_ f2_ f3_; have f4_ := f1_.symm; have f5_ := f3_.symm; clear f1_ f2_ f3_; subst f4_; subst f5_))
                                  refine start_ (n := 10) (S := fun w' => w'.cell? ⟨gb399, 0, none⟩ = some (.bool x400000_2) ∧ w'.cell? ⟨gb399, 1, none⟩ = some (.bool x400001_2) ∧ w'.cell? ⟨gb399, 2, none⟩ = some (.slice Ao47 x400002_2.length co47) ∧ w'.cell? ⟨gb399, 3, none⟩ = some (.int .i64 x400003_2) ∧ w'.cell? ⟨gb399, 4, none⟩ = some (.bool x400004_2) ∧ w'.cell? ⟨gb400, 0, none⟩ = some (.bool x401000_2) ∧ w'.cell? ⟨gb400, 1, none⟩ = some (.bool x401001_2) ∧ w'.cell? ⟨gb400, 2, none⟩ = some (u401002) ∧ w'.cell? ⟨gb400, 3, none⟩ = some (.int .i64 x401003_2) ∧ w'.cell? ⟨gb400, 4, none⟩ = some (.bool x401004_2)) (ds := [8, 9]) #[false, false, false, false, false, false, false, false, false, false] (by kernel_rfl) rfl rfl ⟨(blk_cell BK399.out 0).trans rfl, (blk_cell BK399.out 1).trans rfl, (blk_cell BK399.out 2).trans rfl, (blk_cell BK399.out 3).trans rfl, (blk_cell BK399.out 4).trans rfl, (blk_cell BK400.out 0).trans rfl, (blk_cell BK400.out 1).trans rfl, (blk_cell BK400.out 2).trans rfl, (blk_cell BK400.out 3).trans rfl, (blk_cell BK400.out 4).trans rfl⟩ (fun hHeld => ?_); refine with_tabW repriselaw16_SearchPlays.tab16 repriselaw16_SearchPlays.bits16 (fun HT_ HW_ => ?_)
                                  generalize w43.drew = w46 at HO_7 HO_400002 HO_401002 HO404 BK399 BK400 HB hHeld ⊢
                                  refine pure_ (i := 0) (N := some 59) (v := ?_) (a' := ?_) #[true, false, false, false, false, false, false, false, false, false] rfl rfl (any_of HT_.out (by kernel_rfl)) (fun _ _ _ h => h) (Or.inl ⟨by rfl, ?_⟩) ?_ ?_
                                  rotate_left
                                  · intro w'
                                    go_simp
                                    with_reducible rfl
                                  rotate_left
                                  · simp only [Act.put, List.setIfInBounds_toArray, List.set_cons_zero, List.set_cons_succ, i64_w, i32_w]
                                    rfl
                                  refine pure_ (i := 2) (N := some 61) (v := ?_) (a' := ?_) #[true, false, true, false, false, false, false, false, false, false] rfl rfl (any_of HT_.out (by kernel_rfl)) (fun _ _ _ h => h) (Or.inl ⟨by rfl, ?_⟩) ?_ ?_
                                  rotate_left
                                  · intro w'
                                    go_simp
                                    with_reducible rfl
                                  rotate_left
                                  · simp only [Act.put, List.setIfInBounds_toArray, List.set_cons_zero, List.set_cons_succ, i64_w, i32_w]
                                    rfl
                                  refine pure_ (i := 4) (N := some 63) (v := ?_) (a' := ?_) #[true, false, true, false, true, false, false, false, false, false] rfl rfl (any_of HT_.out (by kernel_rfl)) (fun _ _ _ h => h) (Or.inl ⟨by rfl, ?_⟩) ?_ ?_
                                  rotate_left
                                  · intro w'
                                    go_simp
                                    with_reducible rfl
                                  rotate_left
                                  · simp only [Act.put, List.setIfInBounds_toArray, List.set_cons_zero, List.set_cons_succ, i64_w, i32_w]
                                    rfl
                                  refine pure_ (i := 6) (N := some 65) (v := ?_) (a' := ?_) #[true, false, true, false, true, false, true, false, false, false] rfl rfl (any_of HT_.out (by kernel_rfl)) (fun _ _ _ h => h) (Or.inl ⟨by rfl, ?_⟩) ?_ ?_
                                  rotate_left
                                  · intro w'
                                    go_simp
                                    with_reducible rfl
                                  rotate_left
                                  · simp only [Act.put, List.setIfInBounds_toArray, List.set_cons_zero, List.set_cons_succ, i64_w, i32_w]
                                    rfl
                                  refine take_ (i := 1) (N := some 60) (v := ?_) (a' := ?_) #[true, true, true, false, true, false, true, false, false, false] rfl rfl (take_ofW HT_.out HW_.out (by kernel_rfl)) (fun _ _ _ h => h) (Or.inl ⟨by rfl, ?_⟩) hHeld ?_ ?_
                                  rotate_left
                                  · rintro w' ⟨s0, s1, s2, s3, s4, s5, s6, s7, s8, s9⟩
                                    go_simp
                                    with_reducible rfl
                                  rotate_left
                                  · simp only [Act.put, List.setIfInBounds_toArray, List.set_cons_zero, List.set_cons_succ, i64_w, i32_w]
                                    rfl
                                  refine take_ (i := 5) (N := some 64) (v := ?_) (a' := ?_) #[true, true, true, false, true, true, true, false, false, false] rfl rfl (take_ofW HT_.out HW_.out (by kernel_rfl)) (fun _ _ _ h => h) (Or.inl ⟨by rfl, ?_⟩) hHeld ?_ ?_
                                  rotate_left
                                  · rintro w' ⟨s0, s1, s2, s3, s4, s5, s6, s7, s8, s9⟩
                                    go_simp
                                    with_reducible rfl
                                  rotate_left
                                  · simp only [Act.put, List.setIfInBounds_toArray, List.set_cons_zero, List.set_cons_succ, i64_w, i32_w]
                                    rfl
                                  refine one_ (i := 3) (N := some 62) #[true, true, true, true, true, true, true, false, false, false] rfl rfl (one_of HT_.out (by kernel_rfl)) (by decide) (fun K hK => ?_)
                                  refine goes_ Try.func11 (by kernel_rfl) rfl #[.slice Ao17 t382.length co17, .agg #[.bool x400000_2, .bool x400001_2, .slice Ao47 x400002_2.length co47, .int .i64 x400003_2, .bool x400004_2], .int .i32 (rd y402 (ji36))] (by rfl) rfl rfl (by (try simp only [List.map_toArray, List.map_cons, List.map_nil]); first | done | (simp only [hji36]; rfl) | rfl | (simp only [List.length_drop, List.length_take]; rfl)) ?_
                                  with_reducible refine (search_Type.calls kj29 _ _ t382 x400000_2 x400001_2 _ _ x400002_2 x400003_2 x400004_2 (rd y402 (ji36)) t407 t408 t409 t412 t413 _ ?side1 ?side2 ?side3 ?side4 A39.out).mono ?_
                                  (case side1 => repeat (first | exact (Kd.Q_reads' HO_7.out).2.2 | (with_reducible refine Kd.C_alloc ?_ _) | (with_reducible refine Kd.C_drewN ?_ _) | (with_reducible refine Kd.C_drew ?_)))
                                  (case side2 => exact (Kd.Q_reads' HO_7.out).2.1)
                                  (case side3 => repeat (first | exact (Kd.R_reads' HO_400002.out).2.2 | (with_reducible refine Kd.C_alloc ?_ _) | (with_reducible refine Kd.C_drewN ?_ _) | (with_reducible refine Kd.C_drew ?_)))
                                  (case side4 => exact (Kd.R_reads' HO_400002.out).2.1)
                                  rintro e w48 ⟨v410, rfl, ho0, hb⟩
                                  refine ⟨_, rfl, ?_⟩
                                  have n0_ := Aside0.mk (Kd.Q_below (by (with_reducible repeat (first | apply Kd.Q_alloc | apply Kd.Q_drewN | apply Kd.Q_drew)); exact HO_7.out) hb)
                                  have n1_ := Aside0.mk (Kd.R_elder' (by (with_reducible repeat (first | apply Kd.R_alloc | apply Kd.R_drewN | apply Kd.R_drew)); exact HO_400002.out) (Kd.R_base ho0) hb)
                                  have n2_ := Aside0.mk (Kd.R_elder' (by (with_reducible repeat (first | apply Kd.R_alloc | apply Kd.R_drewN | apply Kd.R_drew)); exact HO_401002.out) (Kd.R_base ho0) hb)
                                  have n3_ := Aside0.mk (Kd.R_elder' (by (with_reducible repeat (first | apply Kd.R_alloc | apply Kd.R_drewN | apply Kd.R_drew)); exact HO404.out) (Kd.R_base ho0) hb)
                                  have n4_ := Aside0.mk (Kd.R_lower (Kd.R_new' (Kd.R_new' (Kd.R_new' ho0 (Kd.R_lt (by (with_reducible repeat (first | apply Kd.R_alloc | apply Kd.R_drewN | apply Kd.R_drew)); exact HO_400002.out))) (Kd.R_lt (by (with_reducible repeat (first | apply Kd.R_alloc | apply Kd.R_drewN | apply Kd.R_drew)); exact HO_401002.out))) (Kd.R_lt (by (with_reducible repeat (first | apply Kd.R_alloc | apply Kd.R_drewN | apply Kd.R_drew)); exact HO404.out))) (below_size (by repeat (first | (with_reducible first | exact HB.out | apply below_alloc | apply pw_below_drewN | apply below_drew1 | refine below_set ?_ GE399.out | refine below_set ?_ GE400.out) | exact HB.out))))
                                  have n5_ := Aside0.mk (blk_below (g := gb399) (o := .cells #[.bool x400000_2, .bool x400001_2, .slice Ao47 x400002_2.length co47, .int .i64 x400003_2, .bool x400004_2] 29 (0, 0)) (by (with_reducible repeat (first | refine blk_drewN ?_ _ | refine blk_drew ?_ | refine blk_alloc ?_ _)); exact BK399.out) hb)
                                  have n6_ := Aside0.mk (blk_below (g := gb400) (o := .cells #[.bool x401000_2, .bool x401001_2, u401002, .int .i64 x401003_2, .bool x401004_2] 29 (0, 0)) (by (with_reducible repeat (first | refine blk_drewN ?_ _ | refine blk_drew ?_ | refine blk_alloc ?_ _)); exact BK400.out) hb)
                                  have n7_ := Aside0.mk (below_step (by repeat (first | (with_reducible first | exact HB.out | apply below_alloc | apply pw_below_drewN | apply below_drew1 | refine below_set ?_ GE399.out | refine below_set ?_ GE400.out) | exact HB.out)) hb)
                                  clear HO_7
                                  clear HO_400002
                                  clear HO_401002
                                  clear HO404
                                  clear BK399
                                  clear BK400
                                  clear HB
                                  have HO_7 := n0_
                                  have HO_400002 := n1_
                                  have HO_401002 := n2_
                                  have HO404 := n3_
                                  have HO411 := n4_
                                  have BK399 := n5_
                                  have BK400 := n6_
                                  have HB := n7_
                                  clear n0_ n1_ n2_ n3_ n4_ n5_ n6_ n7_
                                  (try clear hb)
                                  (try clear hb2)
                                  (try clear hk)
                                  (try clear hi)
                                  (try clear ho0)
                                  obtain ⟨Ao49, co49, eo49⟩ := Kd.R_slice HO_401002.out
                                  (first | subst eo49 | (injection eo49 with f1_ f2_ f3_; have f4_ := f1_.symm; have f5_ := f3_.symm; clear f1_ f2_ f3_; subst f4_; subst f5_))
                                  refine hK.out _ _ ⟨(blk_cell BK399.out 0).trans rfl, (blk_cell BK399.out 1).trans rfl, (blk_cell BK399.out 2).trans rfl, (blk_cell BK399.out 3).trans rfl, (blk_cell BK399.out 4).trans rfl, (blk_cell BK400.out 0).trans rfl, (blk_cell BK400.out 1).trans rfl, (blk_cell BK400.out 2).trans rfl, (blk_cell BK400.out 3).trans rfl, (blk_cell BK400.out 4).trans rfl⟩ (fun hHeld => ?_)
                                  clear hK K
                                  refine norm_ (a' := ?_) ?_ ?_
                                  rotate_left
                                  · show Act.put _ (some 62) _ = _
                                    simp only [Act.put, List.setIfInBounds_toArray, List.set_cons_zero, List.set_cons_succ, i64_w, i32_w]
                                    rfl
                                  refine one_ (i := 7) (N := some 66) #[true, true, true, true, true, true, true, true, false, false] rfl rfl (one_of HT_.out (by kernel_rfl)) (by decide) (fun K hK => ?_)
                                  refine goes_ Try.func12 (by kernel_rfl) rfl #[.slice Ao17 t382.length co17, .agg #[.bool x401000_2, .bool x401001_2, .slice Ao49 x401002_2.length co49, .int .i64 x401003_2, .bool x401004_2], .int .i32 (rd y402 (ji36))] (by rfl) rfl rfl (by (try simp only [List.map_toArray, List.map_cons, List.map_nil]); first | done | (simp only [hji36]; rfl) | rfl | (simp only [List.length_drop, List.length_take]; rfl)) ?_
                                  with_reducible refine (repriseref11_Type.calls kj29 _ _ t382 x401000_2 x401001_2 _ _ x401002_2 x401003_2 x401004_2 (rd y402 (ji36)) t414 t415 t416 t419 t420 _ ?side1 ?side2 ?side3 ?side4 A40.out).mono ?_
                                  (case side1 => repeat (first | exact (Kd.Q_reads' HO_7.out).2.2 | (with_reducible refine Kd.C_alloc ?_ _) | (with_reducible refine Kd.C_drewN ?_ _) | (with_reducible refine Kd.C_drew ?_)))
                                  (case side2 => exact (Kd.Q_reads' HO_7.out).2.1)
                                  (case side3 => repeat (first | exact (Kd.R_reads' HO_401002.out).2.2 | (with_reducible refine Kd.C_alloc ?_ _) | (with_reducible refine Kd.C_drewN ?_ _) | (with_reducible refine Kd.C_drew ?_)))
                                  (case side4 => exact (Kd.R_reads' HO_401002.out).2.1)
                                  rintro e w50 ⟨v417, rfl, ho0, hb⟩
                                  refine ⟨_, rfl, ?_⟩
                                  have n0_ := Aside0.mk (Kd.Q_below (by (with_reducible repeat (first | apply Kd.Q_alloc | apply Kd.Q_drewN | apply Kd.Q_drew)); exact HO_7.out) hb)
                                  have n1_ := Aside0.mk (Kd.R_elder' (by (with_reducible repeat (first | apply Kd.R_alloc | apply Kd.R_drewN | apply Kd.R_drew)); exact HO_400002.out) (Kd.R_base ho0) hb)
                                  have n2_ := Aside0.mk (Kd.R_elder' (by (with_reducible repeat (first | apply Kd.R_alloc | apply Kd.R_drewN | apply Kd.R_drew)); exact HO_401002.out) (Kd.R_base ho0) hb)
                                  have n3_ := Aside0.mk (Kd.R_elder' (by (with_reducible repeat (first | apply Kd.R_alloc | apply Kd.R_drewN | apply Kd.R_drew)); exact HO404.out) (Kd.R_base ho0) hb)
                                  have n4_ := Aside0.mk (Kd.R_elder' (by (with_reducible repeat (first | apply Kd.R_alloc | apply Kd.R_drewN | apply Kd.R_drew)); exact HO411.out) (Kd.R_base ho0) hb)
                                  have n5_ := Aside0.mk (Kd.R_lower (Kd.R_new' (Kd.R_new' (Kd.R_new' (Kd.R_new' ho0 (Kd.R_lt (by (with_reducible repeat (first | apply Kd.R_alloc | apply Kd.R_drewN | apply Kd.R_drew)); exact HO_400002.out))) (Kd.R_lt (by (with_reducible repeat (first | apply Kd.R_alloc | apply Kd.R_drewN | apply Kd.R_drew)); exact HO_401002.out))) (Kd.R_lt (by (with_reducible repeat (first | apply Kd.R_alloc | apply Kd.R_drewN | apply Kd.R_drew)); exact HO404.out))) (Kd.R_lt (by (with_reducible repeat (first | apply Kd.R_alloc | apply Kd.R_drewN | apply Kd.R_drew)); exact HO411.out))) (below_size (by repeat (first | (with_reducible first | exact HB.out | apply below_alloc | apply pw_below_drewN | apply below_drew1 | refine below_set ?_ GE399.out | refine below_set ?_ GE400.out) | exact HB.out))))
                                  have n6_ := Aside0.mk (blk_below (g := gb399) (o := .cells #[.bool x400000_2, .bool x400001_2, .slice Ao47 x400002_2.length co47, .int .i64 x400003_2, .bool x400004_2] 29 (0, 0)) (by (with_reducible repeat (first | refine blk_drewN ?_ _ | refine blk_drew ?_ | refine blk_alloc ?_ _)); exact BK399.out) hb)
                                  have n7_ := Aside0.mk (blk_below (g := gb400) (o := .cells #[.bool x401000_2, .bool x401001_2, .slice Ao49 x401002_2.length co49, .int .i64 x401003_2, .bool x401004_2] 29 (0, 0)) (by (with_reducible repeat (first | refine blk_drewN ?_ _ | refine blk_drew ?_ | refine blk_alloc ?_ _)); exact BK400.out) hb)
                                  have n8_ := Aside0.mk (below_step (by repeat (first | (with_reducible first | exact HB.out | apply below_alloc | apply pw_below_drewN | apply below_drew1 | refine below_set ?_ GE399.out | refine below_set ?_ GE400.out) | exact HB.out)) hb)
                                  clear HO_7
                                  clear HO_400002
                                  clear HO_401002
                                  clear HO404
                                  clear HO411
                                  clear BK399
                                  clear BK400
                                  clear HB
                                  have HO_7 := n0_
                                  have HO_400002 := n1_
                                  have HO_401002 := n2_
                                  have HO404 := n3_
                                  have HO411 := n4_
                                  have HO418 := n5_
                                  have BK399 := n6_
                                  have BK400 := n7_
                                  have HB := n8_
                                  clear n0_ n1_ n2_ n3_ n4_ n5_ n6_ n7_ n8_
                                  (try clear hb)
                                  (try clear hb2)
                                  (try clear hk)
                                  (try clear hi)
                                  (try clear ho0)
                                  obtain ⟨Ao53, co53, eo53⟩ := Kd.R_slice HO411.out
                                  (first | subst eo53 | (injection eo53 with f1_ f2_ f3_; have f4_ := f1_.symm; have f5_ := f3_.symm; clear f1_ f2_ f3_; subst f4_; subst f5_))
                                  obtain ⟨Ao59, co59, eo59⟩ := Kd.R_slice HO418.out
                                  (first | subst eo59 | (injection eo59 with f1_ f2_ f3_; have f4_ := f1_.symm; have f5_ := f3_.symm; clear f1_ f2_ f3_; subst f4_; subst f5_))
                                  refine hK.out _ _ ⟨(blk_cell BK399.out 0).trans rfl, (blk_cell BK399.out 1).trans rfl, (blk_cell BK399.out 2).trans rfl, (blk_cell BK399.out 3).trans rfl, (blk_cell BK399.out 4).trans rfl, (blk_cell BK400.out 0).trans rfl, (blk_cell BK400.out 1).trans rfl, (blk_cell BK400.out 2).trans rfl, (blk_cell BK400.out 3).trans rfl, (blk_cell BK400.out 4).trans rfl⟩ (fun hHeld => ?_)
                                  clear hK K
                                  refine norm_ (a' := ?_) ?_ ?_
                                  rotate_left
                                  · show Act.put _ (some 66) _ = _
                                    simp only [Act.put, List.setIfInBounds_toArray, List.set_cons_zero, List.set_cons_succ, i64_w, i32_w]
                                    rfl
                                  refine last_ (i := 8) (N := none) #[true, true, true, true, true, true, true, true, true, false] rfl rfl (one_of HT_.out (by kernel_rfl)) (by decide) (fun K hK => ?_)
                                  have hs51 : w50.cell? ⟨gb399, 0, none⟩ = some (.bool x400000_2) := (blk_cell BK399.out 0).trans rfl
                                  have hfs51 := blk_frozen BK399.out 0
                                  have hns51_1 := NB400_399.out
                                  have hms51_1 := NB399_400.out
                                  have hs52 : w50.cell? ⟨gb399, 1, none⟩ = some (.bool x400001_2) := (blk_cell BK399.out 1).trans rfl
                                  have hfs52 := blk_frozen BK399.out 1
                                  have hns52_1 := NB400_399.out
                                  have hms52_1 := NB399_400.out
                                  have hs54 : w50.cell? ⟨gb399, 2, none⟩ = some (.slice Ao47 x400002_2.length co47) := (blk_cell BK399.out 2).trans rfl
                                  have hfs54 := blk_frozen BK399.out 2
                                  have hns54_1 := NB400_399.out
                                  have hms54_1 := NB399_400.out
                                  have hs55 : w50.cell? ⟨gb399, 3, none⟩ = some (.int .i64 x400003_2) := (blk_cell BK399.out 3).trans rfl
                                  have hfs55 := blk_frozen BK399.out 3
                                  have hns55_1 := NB400_399.out
                                  have hms55_1 := NB399_400.out
                                  have hs56 : w50.cell? ⟨gb399, 4, none⟩ = some (.bool x400004_2) := (blk_cell BK399.out 4).trans rfl
                                  have hfs56 := blk_frozen BK399.out 4
                                  have hns56_1 := NB400_399.out
                                  have hms56_1 := NB399_400.out
                                  refine skip_ (w1 := ?_) (by rfl) rfl ?_ ?_
                                  rotate_left
                                  · go_simp
                                    rfl
                                  refine hK.out _ _ ?_
                                  clear hK K
                                  refine last_ (i := 9) (N := none) #[true, true, true, true, true, true, true, true, true, true] rfl rfl (one_of HT_.out (by kernel_rfl)) (by decide) (fun K hK => ?_)
                                  have hs57 : w50.cell? ⟨gb400, 0, none⟩ = some (.bool x401000_2) := (blk_cell BK400.out 0).trans rfl
                                  have hfs57 := blk_frozen BK400.out 0
                                  have hns57_0 := NB399_400.out
                                  have hms57_0 := NB400_399.out
                                  have hs58 : w50.cell? ⟨gb400, 1, none⟩ = some (.bool x401001_2) := (blk_cell BK400.out 1).trans rfl
                                  have hfs58 := blk_frozen BK400.out 1
                                  have hns58_0 := NB399_400.out
                                  have hms58_0 := NB400_399.out
                                  have hs60 : w50.cell? ⟨gb400, 2, none⟩ = some (.slice Ao49 x401002_2.length co49) := (blk_cell BK400.out 2).trans rfl
                                  have hfs60 := blk_frozen BK400.out 2
                                  have hns60_0 := NB399_400.out
                                  have hms60_0 := NB400_399.out
                                  have hs61 : w50.cell? ⟨gb400, 3, none⟩ = some (.int .i64 x401003_2) := (blk_cell BK400.out 3).trans rfl
                                  have hfs61 := blk_frozen BK400.out 3
                                  have hns61_0 := NB399_400.out
                                  have hms61_0 := NB400_399.out
                                  have hs62 : w50.cell? ⟨gb400, 4, none⟩ = some (.bool x401004_2) := (blk_cell BK400.out 4).trans rfl
                                  have hfs62 := blk_frozen BK400.out 4
                                  have hns62_0 := NB399_400.out
                                  have hms62_0 := NB400_399.out
                                  refine skip_ (w1 := ?_) (by rfl) rfl ?_ ?_
                                  rotate_left
                                  · go_simp
                                    rfl
                                  refine hK.out _ _ ?_
                                  clear hK K
                                  refine done_ (done_of HT_.out (by kernel_rfl)) ?_
                                  have hnb63 := NB399_400.out
                                  have hnc63 := NB400_399.out
                                  have hcz64_0 : w50.cell? ⟨gb399, 0, none⟩ = some (.bool x400000_2) := (blk_cell BK399.out 0).trans rfl
                                  have hcz64_1 : w50.cell? ⟨gb399, 1, none⟩ = some (.bool x400001_2) := (blk_cell BK399.out 1).trans rfl
                                  have hcz64_2 : w50.cell? ⟨gb399, 2, none⟩ = some (.slice Ao47 x400002_2.length co47) := (blk_cell BK399.out 2).trans rfl
                                  have hcz64_3 : w50.cell? ⟨gb399, 3, none⟩ = some (.int .i64 x400003_2) := (blk_cell BK399.out 3).trans rfl
                                  have hcz64_4 : w50.cell? ⟨gb399, 4, none⟩ = some (.bool x400004_2) := (blk_cell BK399.out 4).trans rfl
                                  have hfz64_0 := blk_frozen BK399.out 0
                                  have hfz64_1 := blk_frozen BK399.out 1
                                  have hfz64_2 := blk_frozen BK399.out 2
                                  have hfz64_3 := blk_frozen BK399.out 3
                                  have hfz64_4 := blk_frozen BK399.out 4
                                  have hcz65_0 : w50.cell? ⟨gb400, 0, none⟩ = some (.bool x401000_2) := (blk_cell BK400.out 0).trans rfl
                                  have hcz65_1 : w50.cell? ⟨gb400, 1, none⟩ = some (.bool x401001_2) := (blk_cell BK400.out 1).trans rfl
                                  have hcz65_2 : w50.cell? ⟨gb400, 2, none⟩ = some (.slice Ao49 x401002_2.length co49) := (blk_cell BK400.out 2).trans rfl
                                  have hcz65_3 : w50.cell? ⟨gb400, 3, none⟩ = some (.int .i64 x401003_2) := (blk_cell BK400.out 3).trans rfl
                                  have hcz65_4 : w50.cell? ⟨gb400, 4, none⟩ = some (.bool x401004_2) := (blk_cell BK400.out 4).trans rfl
                                  have hfz65_0 := blk_frozen BK400.out 0
                                  have hfz65_1 := blk_frozen BK400.out 1
                                  have hfz65_2 := blk_frozen BK400.out 2
                                  have hfz65_3 := blk_frozen BK400.out 3
                                  have hfz65_4 := blk_frozen BK400.out 4
                                  try go_wp2_with (first | ((with_reducible refine gate_callee (f := 17) rfl ?_); refine goesL_ (some 85) rfl rfl Try.func17 (by kernel_rfl) rfl #[.agg #[.bool t407, .bool t408, .slice Ao53 t409.length co53, .int .i64 t412, .bool t413], .agg #[.bool t414, .bool t415, .slice Ao59 t416.length co59, .int .i64 t419, .bool t420]] rfl (by (try simp only [List.map_toArray, List.map_cons, List.map_nil]); first | done | rfl | (simp only [List.length_drop, List.length_take]; rfl)) ?_; (with_reducible refine (reprisehelp_Search.calls kj29 t407 t408 _ _ t409 t412 t413 t414 t415 _ _ t416 t419 t420 true _ ?side1 ?side2 ?side3 ?side4 A41.out).mono ?_); (case side1 => refine (Kd.R_reads' (e := 21) (base := w.heap.size) (ok := fun k_ => ((((True ∧ some k_ ≠ (.slice Ao47 x400002_2.length co47 : Value).ownBlock) ∧ some k_ ≠ (.slice Ao49 x401002_2.length co49 : Value).ownBlock) ∧ some k_ ≠ (.slice (some ad406) y402.length co45 : Value).ownBlock) ∧ some k_ ≠ (.slice Ao59 t416.length co59 : Value).ownBlock)) (n := t409.length) (c := co53) ?_).2.2; exact (by (with_reducible repeat (first | apply Kd.R_alloc | apply Kd.R_drewN | apply Kd.R_drew)); exact (Kd.R_mono (Kd.R_mono (Kd.R_far (p := ⟨gb400, 4, none⟩) (Kd.R_far (p := ⟨gb400, 3, none⟩) (Kd.R_far (p := ⟨gb400, 2, none⟩) (Kd.R_far (p := ⟨gb400, 1, none⟩) (Kd.R_far (p := ⟨gb400, 0, none⟩) (Kd.R_far (p := ⟨gb399, 4, none⟩) (Kd.R_far (p := ⟨gb399, 3, none⟩) (Kd.R_far (p := ⟨gb399, 2, none⟩) (Kd.R_far (p := ⟨gb399, 1, none⟩) (Kd.R_far (p := ⟨gb399, 0, none⟩) (Kd.R_types (Kd.R_types HO411.out BK399.out (by decide)) BK400.out (by decide)) (fun _ hk => hk.1.2) (.bool t407)) (fun _ hk => hk.1.2) (.bool t408)) (fun _ hk => hk.1.2) (.slice Ao53 t409.length co53)) (fun _ hk => hk.1.2) (.int .i64 t412)) (fun _ hk => hk.1.2) (.bool t413)) (fun _ hk => hk.2) (.bool t414)) (fun _ hk => hk.2) (.bool t415)) (fun _ hk => hk.2) (.slice Ao59 t416.length co59)) (fun _ hk => hk.2) (.int .i64 t419)) (fun _ hk => hk.2) (.bool t420)) (fun _ h_ => h_.1)) (fun _ h_ => h_.1)))); (case side2 => exact (Kd.R_reads' HO411.out).2.1); (case side3 => refine (Kd.R_reads' (e := 21) (base := w.heap.size) (ok := fun k_ => ((((True ∧ some k_ ≠ (.slice Ao47 x400002_2.length co47 : Value).ownBlock) ∧ some k_ ≠ (.slice Ao49 x401002_2.length co49 : Value).ownBlock) ∧ some k_ ≠ (.slice (some ad406) y402.length co45 : Value).ownBlock) ∧ some k_ ≠ (.slice Ao53 t409.length co53 : Value).ownBlock)) (n := t416.length) (c := co59) ?_).2.2; exact (by (with_reducible repeat (first | apply Kd.R_alloc | apply Kd.R_drewN | apply Kd.R_drew)); exact (Kd.R_mono (Kd.R_mono (Kd.R_far (p := ⟨gb400, 4, none⟩) (Kd.R_far (p := ⟨gb400, 3, none⟩) (Kd.R_far (p := ⟨gb400, 2, none⟩) (Kd.R_far (p := ⟨gb400, 1, none⟩) (Kd.R_far (p := ⟨gb400, 0, none⟩) (Kd.R_far (p := ⟨gb399, 4, none⟩) (Kd.R_far (p := ⟨gb399, 3, none⟩) (Kd.R_far (p := ⟨gb399, 2, none⟩) (Kd.R_far (p := ⟨gb399, 1, none⟩) (Kd.R_far (p := ⟨gb399, 0, none⟩) (Kd.R_types (Kd.R_types HO418.out BK399.out (by decide)) BK400.out (by decide)) (fun _ hk => hk.1.2) (.bool t407)) (fun _ hk => hk.1.2) (.bool t408)) (fun _ hk => hk.1.2) (.slice Ao53 t409.length co53)) (fun _ hk => hk.1.2) (.int .i64 t412)) (fun _ hk => hk.1.2) (.bool t413)) (fun _ hk => hk.2) (.bool t414)) (fun _ hk => hk.2) (.bool t415)) (fun _ hk => hk.2) (.slice Ao59 t416.length co59)) (fun _ hk => hk.2) (.int .i64 t419)) (fun _ hk => hk.2) (.bool t420)) (fun _ h_ => h_.1)) (fun _ h_ => h_.1)))); (case side4 => exact (Kd.R_reads' HO418.out).2.1); rintro e w66 ⟨rfl, hb⟩; refine ⟨_, rfl, ?_⟩; have n0_ := Aside0.mk (Kd.Q_below (by (with_reducible repeat (first | apply Kd.Q_alloc | apply Kd.Q_drewN | apply Kd.Q_drew)); exact (Kd.Q_mono (Kd.Q_mono (Kd.Q_far (p := ⟨gb400, 4, none⟩) (Kd.Q_far (p := ⟨gb400, 3, none⟩) (Kd.Q_far (p := ⟨gb400, 2, none⟩) (Kd.Q_far (p := ⟨gb400, 1, none⟩) (Kd.Q_far (p := ⟨gb400, 0, none⟩) (Kd.Q_far (p := ⟨gb399, 4, none⟩) (Kd.Q_far (p := ⟨gb399, 3, none⟩) (Kd.Q_far (p := ⟨gb399, 2, none⟩) (Kd.Q_far (p := ⟨gb399, 1, none⟩) (Kd.Q_far (p := ⟨gb399, 0, none⟩) (Kd.Q_types (Kd.Q_types HO_7.out BK399.out (by decide)) BK400.out (by decide)) (fun _ hk => hk.1.2) (.bool t407)) (fun _ hk => hk.1.2) (.bool t408)) (fun _ hk => hk.1.2) (.slice Ao53 t409.length co53)) (fun _ hk => hk.1.2) (.int .i64 t412)) (fun _ hk => hk.1.2) (.bool t413)) (fun _ hk => hk.2) (.bool t414)) (fun _ hk => hk.2) (.bool t415)) (fun _ hk => hk.2) (.slice Ao59 t416.length co59)) (fun _ hk => hk.2) (.int .i64 t419)) (fun _ hk => hk.2) (.bool t420)) (fun _ h_ => h_.1)) (fun _ h_ => h_.1))) hb); have n1_ := Aside0.mk (Kd.R_below (by (with_reducible repeat (first | apply Kd.R_alloc | apply Kd.R_drewN | apply Kd.R_drew)); exact (Kd.R_mono (Kd.R_mono (Kd.R_far (p := ⟨gb400, 4, none⟩) (Kd.R_far (p := ⟨gb400, 3, none⟩) (Kd.R_far (p := ⟨gb400, 2, none⟩) (Kd.R_far (p := ⟨gb400, 1, none⟩) (Kd.R_far (p := ⟨gb400, 0, none⟩) (Kd.R_far (p := ⟨gb399, 4, none⟩) (Kd.R_far (p := ⟨gb399, 3, none⟩) (Kd.R_far (p := ⟨gb399, 2, none⟩) (Kd.R_far (p := ⟨gb399, 1, none⟩) (Kd.R_far (p := ⟨gb399, 0, none⟩) (Kd.R_types (Kd.R_types HO_400002.out BK399.out (by decide)) BK400.out (by decide)) (fun _ hk => hk.1.2) (.bool t407)) (fun _ hk => hk.1.2) (.bool t408)) (fun _ hk => hk.1.2) (.slice Ao53 t409.length co53)) (fun _ hk => hk.1.2) (.int .i64 t412)) (fun _ hk => hk.1.2) (.bool t413)) (fun _ hk => hk.2) (.bool t414)) (fun _ hk => hk.2) (.bool t415)) (fun _ hk => hk.2) (.slice Ao59 t416.length co59)) (fun _ hk => hk.2) (.int .i64 t419)) (fun _ hk => hk.2) (.bool t420)) (fun _ h_ => h_.1)) (fun _ h_ => h_.1))) hb); have n2_ := Aside0.mk (Kd.R_below (by (with_reducible repeat (first | apply Kd.R_alloc | apply Kd.R_drewN | apply Kd.R_drew)); exact (Kd.R_mono (Kd.R_mono (Kd.R_far (p := ⟨gb400, 4, none⟩) (Kd.R_far (p := ⟨gb400, 3, none⟩) (Kd.R_far (p := ⟨gb400, 2, none⟩) (Kd.R_far (p := ⟨gb400, 1, none⟩) (Kd.R_far (p := ⟨gb400, 0, none⟩) (Kd.R_far (p := ⟨gb399, 4, none⟩) (Kd.R_far (p := ⟨gb399, 3, none⟩) (Kd.R_far (p := ⟨gb399, 2, none⟩) (Kd.R_far (p := ⟨gb399, 1, none⟩) (Kd.R_far (p := ⟨gb399, 0, none⟩) (Kd.R_types (Kd.R_types HO_401002.out BK399.out (by decide)) BK400.out (by decide)) (fun _ hk => hk.1.2) (.bool t407)) (fun _ hk => hk.1.2) (.bool t408)) (fun _ hk => hk.1.2) (.slice Ao53 t409.length co53)) (fun _ hk => hk.1.2) (.int .i64 t412)) (fun _ hk => hk.1.2) (.bool t413)) (fun _ hk => hk.2) (.bool t414)) (fun _ hk => hk.2) (.bool t415)) (fun _ hk => hk.2) (.slice Ao59 t416.length co59)) (fun _ hk => hk.2) (.int .i64 t419)) (fun _ hk => hk.2) (.bool t420)) (fun _ h_ => h_.1)) (fun _ h_ => h_.1))) hb); have n3_ := Aside0.mk (Kd.R_below (by (with_reducible repeat (first | apply Kd.R_alloc | apply Kd.R_drewN | apply Kd.R_drew)); exact (Kd.R_mono (Kd.R_mono (Kd.R_far (p := ⟨gb400, 4, none⟩) (Kd.R_far (p := ⟨gb400, 3, none⟩) (Kd.R_far (p := ⟨gb400, 2, none⟩) (Kd.R_far (p := ⟨gb400, 1, none⟩) (Kd.R_far (p := ⟨gb400, 0, none⟩) (Kd.R_far (p := ⟨gb399, 4, none⟩) (Kd.R_far (p := ⟨gb399, 3, none⟩) (Kd.R_far (p := ⟨gb399, 2, none⟩) (Kd.R_far (p := ⟨gb399, 1, none⟩) (Kd.R_far (p := ⟨gb399, 0, none⟩) (Kd.R_types (Kd.R_types HO404.out BK399.out (by decide)) BK400.out (by decide)) (fun _ hk => hk.1.2) (.bool t407)) (fun _ hk => hk.1.2) (.bool t408)) (fun _ hk => hk.1.2) (.slice Ao53 t409.length co53)) (fun _ hk => hk.1.2) (.int .i64 t412)) (fun _ hk => hk.1.2) (.bool t413)) (fun _ hk => hk.2) (.bool t414)) (fun _ hk => hk.2) (.bool t415)) (fun _ hk => hk.2) (.slice Ao59 t416.length co59)) (fun _ hk => hk.2) (.int .i64 t419)) (fun _ hk => hk.2) (.bool t420)) (fun _ h_ => h_.1)) (fun _ h_ => h_.1))) hb); have n4_ := Aside0.mk (Kd.R_below (by (with_reducible repeat (first | apply Kd.R_alloc | apply Kd.R_drewN | apply Kd.R_drew)); exact (Kd.R_mono (Kd.R_mono (Kd.R_far (p := ⟨gb400, 4, none⟩) (Kd.R_far (p := ⟨gb400, 3, none⟩) (Kd.R_far (p := ⟨gb400, 2, none⟩) (Kd.R_far (p := ⟨gb400, 1, none⟩) (Kd.R_far (p := ⟨gb400, 0, none⟩) (Kd.R_far (p := ⟨gb399, 4, none⟩) (Kd.R_far (p := ⟨gb399, 3, none⟩) (Kd.R_far (p := ⟨gb399, 2, none⟩) (Kd.R_far (p := ⟨gb399, 1, none⟩) (Kd.R_far (p := ⟨gb399, 0, none⟩) (Kd.R_types (Kd.R_types HO411.out BK399.out (by decide)) BK400.out (by decide)) (fun _ hk => hk.1.2) (.bool t407)) (fun _ hk => hk.1.2) (.bool t408)) (fun _ hk => hk.1.2) (.slice Ao53 t409.length co53)) (fun _ hk => hk.1.2) (.int .i64 t412)) (fun _ hk => hk.1.2) (.bool t413)) (fun _ hk => hk.2) (.bool t414)) (fun _ hk => hk.2) (.bool t415)) (fun _ hk => hk.2) (.slice Ao59 t416.length co59)) (fun _ hk => hk.2) (.int .i64 t419)) (fun _ hk => hk.2) (.bool t420)) (fun _ h_ => h_.1)) (fun _ h_ => h_.1))) hb); have n5_ := Aside0.mk (Kd.R_below (by (with_reducible repeat (first | apply Kd.R_alloc | apply Kd.R_drewN | apply Kd.R_drew)); exact (Kd.R_mono (Kd.R_mono (Kd.R_far (p := ⟨gb400, 4, none⟩) (Kd.R_far (p := ⟨gb400, 3, none⟩) (Kd.R_far (p := ⟨gb400, 2, none⟩) (Kd.R_far (p := ⟨gb400, 1, none⟩) (Kd.R_far (p := ⟨gb400, 0, none⟩) (Kd.R_far (p := ⟨gb399, 4, none⟩) (Kd.R_far (p := ⟨gb399, 3, none⟩) (Kd.R_far (p := ⟨gb399, 2, none⟩) (Kd.R_far (p := ⟨gb399, 1, none⟩) (Kd.R_far (p := ⟨gb399, 0, none⟩) (Kd.R_types (Kd.R_types HO418.out BK399.out (by decide)) BK400.out (by decide)) (fun _ hk => hk.1.2) (.bool t407)) (fun _ hk => hk.1.2) (.bool t408)) (fun _ hk => hk.1.2) (.slice Ao53 t409.length co53)) (fun _ hk => hk.1.2) (.int .i64 t412)) (fun _ hk => hk.1.2) (.bool t413)) (fun _ hk => hk.2) (.bool t414)) (fun _ hk => hk.2) (.bool t415)) (fun _ hk => hk.2) (.slice Ao59 t416.length co59)) (fun _ hk => hk.2) (.int .i64 t419)) (fun _ hk => hk.2) (.bool t420)) (fun _ h_ => h_.1)) (fun _ h_ => h_.1))) hb); have n6_ := Aside0.mk (blk_below (g := gb399) (o := .cells #[.bool t407, .bool t408, .slice Ao53 t409.length co53, .int .i64 t412, .bool t413] 29 (0, 0)) (by (with_reducible repeat (first | refine blk_drewN ?_ _ | refine blk_drew ?_ | refine blk_alloc ?_ _)); refine blk_far ?_ NB399_400.out _; (with_reducible repeat (first | refine blk_drewN ?_ _ | refine blk_drew ?_ | refine blk_alloc ?_ _)); refine blk_far ?_ NB399_400.out _; (with_reducible repeat (first | refine blk_drewN ?_ _ | refine blk_drew ?_ | refine blk_alloc ?_ _)); refine blk_far ?_ NB399_400.out _; (with_reducible repeat (first | refine blk_drewN ?_ _ | refine blk_drew ?_ | refine blk_alloc ?_ _)); refine blk_far ?_ NB399_400.out _; (with_reducible repeat (first | refine blk_drewN ?_ _ | refine blk_drew ?_ | refine blk_alloc ?_ _)); refine blk_far ?_ NB399_400.out _; (with_reducible repeat (first | refine blk_drewN ?_ _ | refine blk_drew ?_ | refine blk_alloc ?_ _)); refine blk_put (cs := #[.bool t407, .bool t408, .slice Ao53 t409.length co53, .int .i64 t412, .bool x400004_2]) ?_ 4 _ rfl; (with_reducible repeat (first | refine blk_drewN ?_ _ | refine blk_drew ?_ | refine blk_alloc ?_ _)); refine blk_put (cs := #[.bool t407, .bool t408, .slice Ao53 t409.length co53, .int .i64 x400003_2, .bool x400004_2]) ?_ 3 _ rfl; (with_reducible repeat (first | refine blk_drewN ?_ _ | refine blk_drew ?_ | refine blk_alloc ?_ _)); refine blk_put (cs := #[.bool t407, .bool t408, .slice Ao47 x400002_2.length co47, .int .i64 x400003_2, .bool x400004_2]) ?_ 2 _ rfl; (with_reducible repeat (first | refine blk_drewN ?_ _ | refine blk_drew ?_ | refine blk_alloc ?_ _)); refine blk_put (cs := #[.bool t407, .bool x400001_2, .slice Ao47 x400002_2.length co47, .int .i64 x400003_2, .bool x400004_2]) ?_ 1 _ rfl; (with_reducible repeat (first | refine blk_drewN ?_ _ | refine blk_drew ?_ | refine blk_alloc ?_ _)); refine blk_put (cs := #[.bool x400000_2, .bool x400001_2, .slice Ao47 x400002_2.length co47, .int .i64 x400003_2, .bool x400004_2]) ?_ 0 _ rfl; (with_reducible repeat (first | refine blk_drewN ?_ _ | refine blk_drew ?_ | refine blk_alloc ?_ _)); exact BK399.out) hb); have n7_ := Aside0.mk (blk_below (g := gb400) (o := .cells #[.bool t414, .bool t415, .slice Ao59 t416.length co59, .int .i64 t419, .bool t420] 29 (0, 0)) (by (with_reducible repeat (first | refine blk_drewN ?_ _ | refine blk_drew ?_ | refine blk_alloc ?_ _)); refine blk_put (cs := #[.bool t414, .bool t415, .slice Ao59 t416.length co59, .int .i64 t419, .bool x401004_2]) ?_ 4 _ rfl; (with_reducible repeat (first | refine blk_drewN ?_ _ | refine blk_drew ?_ | refine blk_alloc ?_ _)); refine blk_put (cs := #[.bool t414, .bool t415, .slice Ao59 t416.length co59, .int .i64 x401003_2, .bool x401004_2]) ?_ 3 _ rfl; (with_reducible repeat (first | refine blk_drewN ?_ _ | refine blk_drew ?_ | refine blk_alloc ?_ _)); refine blk_put (cs := #[.bool t414, .bool t415, .slice Ao49 x401002_2.length co49, .int .i64 x401003_2, .bool x401004_2]) ?_ 2 _ rfl; (with_reducible repeat (first | refine blk_drewN ?_ _ | refine blk_drew ?_ | refine blk_alloc ?_ _)); refine blk_put (cs := #[.bool t414, .bool x401001_2, .slice Ao49 x401002_2.length co49, .int .i64 x401003_2, .bool x401004_2]) ?_ 1 _ rfl; (with_reducible repeat (first | refine blk_drewN ?_ _ | refine blk_drew ?_ | refine blk_alloc ?_ _)); refine blk_put (cs := #[.bool x401000_2, .bool x401001_2, .slice Ao49 x401002_2.length co49, .int .i64 x401003_2, .bool x401004_2]) ?_ 0 _ rfl; (with_reducible repeat (first | refine blk_drewN ?_ _ | refine blk_drew ?_ | refine blk_alloc ?_ _)); refine blk_far ?_ NB400_399.out _; (with_reducible repeat (first | refine blk_drewN ?_ _ | refine blk_drew ?_ | refine blk_alloc ?_ _)); refine blk_far ?_ NB400_399.out _; (with_reducible repeat (first | refine blk_drewN ?_ _ | refine blk_drew ?_ | refine blk_alloc ?_ _)); refine blk_far ?_ NB400_399.out _; (with_reducible repeat (first | refine blk_drewN ?_ _ | refine blk_drew ?_ | refine blk_alloc ?_ _)); refine blk_far ?_ NB400_399.out _; (with_reducible repeat (first | refine blk_drewN ?_ _ | refine blk_drew ?_ | refine blk_alloc ?_ _)); refine blk_far ?_ NB400_399.out _; (with_reducible repeat (first | refine blk_drewN ?_ _ | refine blk_drew ?_ | refine blk_alloc ?_ _)); exact BK400.out) hb); have n8_ := Aside0.mk (below_step (by repeat (first | (with_reducible first | exact HB.out | apply below_alloc | apply pw_below_drewN | apply below_drew1 | refine below_set ?_ GE399.out | refine below_set ?_ GE400.out) | exact HB.out)) hb); clear HO_7; clear HO_400002; clear HO_401002; clear HO404; clear HO411; clear HO418; clear BK399; clear BK400; clear HB; have HO_7 := n0_; have HO_400002 := n1_; have HO_401002 := n2_; have HO404 := n3_; have HO411 := n4_; have HO418 := n5_; have BK399 := n6_; have BK400 := n7_; have HB := n8_; clear n0_ n1_ n2_ n3_ n4_ n5_ n6_ n7_ n8_; (try clear hb); (try clear hb2); (try clear hk); (try clear hi)))
                                  go_roundg kj29
                                  case measure => have := HJ5.out; have := HK2.out; have := HJ29.out; omega
                                  case rel => exact ⟨(wrap64 (x10_2 + 1)), (t407), (t408), (t409), (t412), (t413), (t414), (t415), (t416), (t419), (t420), (.slice Ao53 t409.length co53), (.slice Ao59 t416.length co59), (by first | rfl | (simp; done) | (simp [*]; done)), H', ⟨by have := HJ5.out; have := HK2.out; have := HJ29.out; omega⟩, ⟨by (with_reducible repeat (first | apply Kd.Q_alloc | apply Kd.Q_drewN | apply Kd.Q_drew)); exact HO_7.out⟩, ⟨by (with_reducible repeat (first | apply Kd.R_alloc | apply Kd.R_drewN | apply Kd.R_drew)); exact Kd.R_mono HO411.out (fun _ hk => hk.2)⟩, ⟨by (with_reducible repeat (first | apply Kd.R_alloc | apply Kd.R_drewN | apply Kd.R_drew)); exact Kd.R_mono HO418.out (fun _ hk => hk.2)⟩, ⟨by (with_reducible repeat (first | refine blk_drewN ?_ _ | refine blk_drew ?_ | refine blk_alloc ?_ _)); exact BK399.out⟩, ⟨by (with_reducible repeat (first | refine blk_drewN ?_ _ | refine blk_drew ?_ | refine blk_alloc ?_ _)); exact BK400.out⟩, ⟨by repeat (first | (with_reducible first | exact HB.out | apply below_alloc | apply pw_below_drewN | apply below_drew1 | refine below_set ?_ GE399.out | refine below_set ?_ GE400.out) | exact HB.out)⟩⟩
                                · replace c42 := Bool.eq_false_iff.mpr c42
                                  subst c42
                                  have H1 : (none) = some r := by rw [if_neg (show ¬ (false = true) by decide)] at H; exact H
                                  clear H
                                  have H := H1
                                  clear H1
                                  exact absurd H (by simp)
                              · rw [if_neg c38] at H
                                exact absurd H (by simp)
                            · rw [if_neg c37] at H
                              exact absurd H (by simp)
                          · rw [if_neg c35] at H
                            exact absurd H (by simp)
                        · rw [if_neg c34] at H
                          exact absurd H (by simp)
                      · replace c33 := Bool.eq_false_iff.mpr c33
                        subst c33
                        have H1 : (if (Int.tmod (rd l1 x10_2) 6) = 3 then ((search_Again.f kj29 t382 x400000_2 x400001_2 x400002_2 x400003_2 x400004_2 true).bind fun bt422 => ((repriseref11_Again.f kj29 t382 x401000_2 x401001_2 x401002_2 x401003_2 x401004_2 true).bind fun bt429 => ((reprisehelp_Search.f kj29 bt422.1 bt422.2.1 bt422.2.2.1 bt422.2.2.2.1 bt422.2.2.2.2 bt429.1 bt429.2.1 bt429.2.2.1 bt429.2.2.2.1 bt429.2.2.2.2).bind fun t436 => (if t436 = true then (repriselaw16_SearchPlays.l0 kj29 l1 t382 (wrap64 (x10_2 + 1)) bt422.1 bt422.2.1 bt422.2.2.1 bt422.2.2.2.1 bt422.2.2.2.2 bt429.1 bt429.2.1 bt429.2.2.1 bt429.2.2.2.1 bt429.2.2.2.2) else (none))))) else (if (Int.tmod (rd l1 x10_2) 6) = 4 then ((search_Again.f kj29 t382 x400000_2 x400001_2 x400002_2 x400003_2 x400004_2 false).bind fun bt437 => ((repriseref11_Again.f kj29 t382 x401000_2 x401001_2 x401002_2 x401003_2 x401004_2 false).bind fun bt444 => ((reprisehelp_Search.f kj29 bt437.1 bt437.2.1 bt437.2.2.1 bt437.2.2.2.1 bt437.2.2.2.2 bt444.1 bt444.2.1 bt444.2.2.1 bt444.2.2.2.1 bt444.2.2.2.2).bind fun t451 => (if t451 = true then (repriselaw16_SearchPlays.l0 kj29 l1 t382 (wrap64 (x10_2 + 1)) bt437.1 bt437.2.1 bt437.2.2.1 bt437.2.2.2.1 bt437.2.2.2.2 bt444.1 bt444.2.1 bt444.2.2.1 bt444.2.2.2.1 bt444.2.2.2.2) else (none))))) else ((search_Rub.f x400000_2 x400001_2 x400002_2 x400003_2 x400004_2).bind fun bt452 => ((repriseref11_Rub.f x401000_2 x401001_2 x401002_2 x401003_2 x401004_2).bind fun bt459 => ((reprisehelp_Search.f kj29 bt452.1 bt452.2.1 bt452.2.2.1 bt452.2.2.2.1 bt452.2.2.2.2 bt459.1 bt459.2.1 bt459.2.2.1 bt459.2.2.2.1 bt459.2.2.2.2).bind fun t466 => (if t466 = true then (repriselaw16_SearchPlays.l0 kj29 l1 t382 (wrap64 (x10_2 + 1)) bt452.1 bt452.2.1 bt452.2.2.1 bt452.2.2.2.1 bt452.2.2.2.2 bt459.1 bt459.2.1 bt459.2.2.1 bt459.2.2.2.1 bt459.2.2.2.2) else (none))))))) = some r := by rw [if_neg (show ¬ (false = true) by decide)] at H; exact H
                        clear H
                        have H := H1
                        clear H1
                        by_cases c67 : (Int.tmod (rd l1 x10_2) 6) = 3
                        · rw [if_pos c67] at H
                          have c67b0 : ((Int.tmod (rd l1 x10_2) 6) == 3) = true := beq_iff_eq.mpr c67
                          have c67b1 : ((Int.tmod (rd l1 x10_2) 6) != 3) = false := bne_eq_false_iff_eq.mpr c67
                          clear c67
                          replace H := Option.bind_eq_some_iff.mp H
                          obtain ⟨⟨t422, t423, t424, t427, t428⟩, A680, H⟩ := H
                          replace H : ((repriseref11_Again.f kj29 t382 x401000_2 x401001_2 x401002_2 x401003_2 x401004_2 true).bind fun bt429 => ((reprisehelp_Search.f kj29 t422 t423 t424 t427 t428 bt429.1 bt429.2.1 bt429.2.2.1 bt429.2.2.2.1 bt429.2.2.2.2).bind fun t436 => (if t436 = true then (repriselaw16_SearchPlays.l0 kj29 l1 t382 (wrap64 (x10_2 + 1)) t422 t423 t424 t427 t428 bt429.1 bt429.2.1 bt429.2.2.1 bt429.2.2.2.1 bt429.2.2.2.2) else (none)))) = some r := H
                          have A68 := Aside0.mk A680
                          clear A680
                          replace H := Option.bind_eq_some_iff.mp H
                          obtain ⟨⟨t429, t430, t431, t434, t435⟩, A690, H⟩ := H
                          replace H : ((reprisehelp_Search.f kj29 t422 t423 t424 t427 t428 t429 t430 t431 t434 t435).bind fun t436 => (if t436 = true then (repriselaw16_SearchPlays.l0 kj29 l1 t382 (wrap64 (x10_2 + 1)) t422 t423 t424 t427 t428 t429 t430 t431 t434 t435) else (none))) = some r := H
                          have A69 := Aside0.mk A690
                          clear A690
                          replace H := Option.bind_eq_some_iff.mp H
                          obtain ⟨t436, A700, H⟩ := H
                          replace H : (if t436 = true then (repriselaw16_SearchPlays.l0 kj29 l1 t382 (wrap64 (x10_2 + 1)) t422 t423 t424 t427 t428 t429 t430 t431 t434 t435) else (none)) = some r := H
                          have A70 := Aside0.mk A700
                          clear A700
                          by_cases c71 : t436 = true
                          · subst c71
                            have H1 : (repriselaw16_SearchPlays.l0 kj29 l1 t382 (wrap64 (x10_2 + 1)) t422 t423 t424 t427 t428 t429 t430 t431 t434 t435) = some r := by rw [if_pos rfl] at H; exact H
                            clear H
                            have H := H1
                            clear H1
                            have H' := Aside0.mk H
                            clear H
                            try go_wp2
                            have n0_ := Aside0.mk (Kd.Q_drew HO_7.out)
                            have n1_ := Aside0.mk (Kd.R_drew HO_400002.out)
                            have n2_ := Aside0.mk (Kd.R_drew HO_401002.out)
                            have n3_ := Aside0.mk (blk_drew BK399.out)
                            have n4_ := Aside0.mk (blk_drew BK400.out)
                            have n5_ := Aside0.mk (below_drew1 HB.out)
                            clear HO_7
                            clear HO_400002
                            clear HO_401002
                            clear BK399
                            clear BK400
                            clear HB
                            have HO_7 := n0_
                            have HO_400002 := n1_
                            have HO_401002 := n2_
                            have BK399 := n3_
                            have BK400 := n4_
                            have HB := n5_
                            clear n0_ n1_ n2_ n3_ n4_ n5_
                            obtain ⟨Ao73, co73, eo73⟩ := Kd.R_slice HO_400002.out
                            (first | subst eo73 | (injection eo73 with f1_ f2_ f3_; have f4_ := f1_.symm; have f5_ := f3_.symm; clear f1_ f2_ f3_; subst f4_; subst f5_))
                            refine start_ (n := 8) (S := fun w' => w'.cell? ⟨gb399, 0, none⟩ = some (.bool x400000_2) ∧ w'.cell? ⟨gb399, 1, none⟩ = some (.bool x400001_2) ∧ w'.cell? ⟨gb399, 2, none⟩ = some (.slice Ao73 x400002_2.length co73) ∧ w'.cell? ⟨gb399, 3, none⟩ = some (.int .i64 x400003_2) ∧ w'.cell? ⟨gb399, 4, none⟩ = some (.bool x400004_2) ∧ w'.cell? ⟨gb400, 0, none⟩ = some (.bool x401000_2) ∧ w'.cell? ⟨gb400, 1, none⟩ = some (.bool x401001_2) ∧ w'.cell? ⟨gb400, 2, none⟩ = some (u401002) ∧ w'.cell? ⟨gb400, 3, none⟩ = some (.int .i64 x401003_2) ∧ w'.cell? ⟨gb400, 4, none⟩ = some (.bool x401004_2)) (ds := [6, 7]) #[false, false, false, false, false, false, false, false] (by kernel_rfl) rfl rfl ⟨(blk_cell BK399.out 0).trans rfl, (blk_cell BK399.out 1).trans rfl, (blk_cell BK399.out 2).trans rfl, (blk_cell BK399.out 3).trans rfl, (blk_cell BK399.out 4).trans rfl, (blk_cell BK400.out 0).trans rfl, (blk_cell BK400.out 1).trans rfl, (blk_cell BK400.out 2).trans rfl, (blk_cell BK400.out 3).trans rfl, (blk_cell BK400.out 4).trans rfl⟩ (fun hHeld => ?_); refine with_tabW repriselaw16_SearchPlays.tab18 repriselaw16_SearchPlays.bits18 (fun HT_ HW_ => ?_)
                            generalize wc.drew = w72 at HO_7 HO_400002 HO_401002 BK399 BK400 HB hHeld ⊢
                            refine pure_ (i := 0) (N := some 69) (v := ?_) (a' := ?_) #[true, false, false, false, false, false, false, false] rfl rfl (any_of HT_.out (by kernel_rfl)) (fun _ _ _ h => h) (Or.inl ⟨by rfl, ?_⟩) ?_ ?_
                            rotate_left
                            · intro w'
                              go_simp
                              with_reducible rfl
                            rotate_left
                            · simp only [Act.put, List.setIfInBounds_toArray, List.set_cons_zero, List.set_cons_succ, i64_w, i32_w]
                              rfl
                            refine pure_ (i := 3) (N := some 72) (v := ?_) (a' := ?_) #[true, false, false, true, false, false, false, false] rfl rfl (any_of HT_.out (by kernel_rfl)) (fun _ _ _ h => h) (Or.inl ⟨by rfl, ?_⟩) ?_ ?_
                            rotate_left
                            · intro w'
                              go_simp
                              with_reducible rfl
                            rotate_left
                            · simp only [Act.put, List.setIfInBounds_toArray, List.set_cons_zero, List.set_cons_succ, i64_w, i32_w]
                              rfl
                            refine take_ (i := 1) (N := some 70) (v := ?_) (a' := ?_) #[true, true, false, true, false, false, false, false] rfl rfl (take_ofW HT_.out HW_.out (by kernel_rfl)) (fun _ _ _ h => h) (Or.inl ⟨by rfl, ?_⟩) hHeld ?_ ?_
                            rotate_left
                            · rintro w' ⟨s0, s1, s2, s3, s4, s5, s6, s7, s8, s9⟩
                              go_simp
                              with_reducible rfl
                            rotate_left
                            · simp only [Act.put, List.setIfInBounds_toArray, List.set_cons_zero, List.set_cons_succ, i64_w, i32_w]
                              rfl
                            refine take_ (i := 4) (N := some 73) (v := ?_) (a' := ?_) #[true, true, false, true, true, false, false, false] rfl rfl (take_ofW HT_.out HW_.out (by kernel_rfl)) (fun _ _ _ h => h) (Or.inl ⟨by rfl, ?_⟩) hHeld ?_ ?_
                            rotate_left
                            · rintro w' ⟨s0, s1, s2, s3, s4, s5, s6, s7, s8, s9⟩
                              go_simp
                              with_reducible rfl
                            rotate_left
                            · simp only [Act.put, List.setIfInBounds_toArray, List.set_cons_zero, List.set_cons_succ, i64_w, i32_w]
                              rfl
                            refine one_ (i := 2) (N := some 71) #[true, true, true, true, true, false, false, false] rfl rfl (one_of HT_.out (by kernel_rfl)) (by decide) (fun K hK => ?_)
                            refine goes_ Try.func13 (by kernel_rfl) rfl #[.slice Ao17 t382.length co17, .agg #[.bool x400000_2, .bool x400001_2, .slice Ao73 x400002_2.length co73, .int .i64 x400003_2, .bool x400004_2], .bool true] (by rfl) rfl rfl (by (try simp only [List.map_toArray, List.map_cons, List.map_nil]); first | done | rfl | (simp only [List.length_drop, List.length_take]; rfl)) ?_
                            with_reducible refine (search_Again.calls kj29 _ _ t382 x400000_2 x400001_2 _ _ x400002_2 x400003_2 x400004_2 true t422 t423 t424 t427 t428 _ ?side1 ?side2 ?side3 ?side4 A68.out).mono ?_
                            (case side1 => repeat (first | exact (Kd.Q_reads' HO_7.out).2.2 | (with_reducible refine Kd.C_alloc ?_ _) | (with_reducible refine Kd.C_drewN ?_ _) | (with_reducible refine Kd.C_drew ?_)))
                            (case side2 => exact (Kd.Q_reads' HO_7.out).2.1)
                            (case side3 => repeat (first | exact (Kd.R_reads' HO_400002.out).2.2 | (with_reducible refine Kd.C_alloc ?_ _) | (with_reducible refine Kd.C_drewN ?_ _) | (with_reducible refine Kd.C_drew ?_)))
                            (case side4 => exact (Kd.R_reads' HO_400002.out).2.1)
                            rintro e w74 ⟨v425, rfl, ho0, hb⟩
                            refine ⟨_, rfl, ?_⟩
                            have n0_ := Aside0.mk (Kd.Q_below (by (with_reducible repeat (first | apply Kd.Q_alloc | apply Kd.Q_drewN | apply Kd.Q_drew)); exact HO_7.out) hb)
                            have n1_ := Aside0.mk (Kd.R_elder' (by (with_reducible repeat (first | apply Kd.R_alloc | apply Kd.R_drewN | apply Kd.R_drew)); exact HO_400002.out) (Kd.R_base ho0) hb)
                            have n2_ := Aside0.mk (Kd.R_elder' (by (with_reducible repeat (first | apply Kd.R_alloc | apply Kd.R_drewN | apply Kd.R_drew)); exact HO_401002.out) (Kd.R_base ho0) hb)
                            have n3_ := Aside0.mk (Kd.R_lower (Kd.R_new' (Kd.R_new' ho0 (Kd.R_lt (by (with_reducible repeat (first | apply Kd.R_alloc | apply Kd.R_drewN | apply Kd.R_drew)); exact HO_400002.out))) (Kd.R_lt (by (with_reducible repeat (first | apply Kd.R_alloc | apply Kd.R_drewN | apply Kd.R_drew)); exact HO_401002.out))) (below_size (by repeat (first | (with_reducible first | exact HB.out | apply below_alloc | apply pw_below_drewN | apply below_drew1 | refine below_set ?_ GE399.out | refine below_set ?_ GE400.out) | exact HB.out))))
                            have n4_ := Aside0.mk (blk_below (g := gb399) (o := .cells #[.bool x400000_2, .bool x400001_2, .slice Ao73 x400002_2.length co73, .int .i64 x400003_2, .bool x400004_2] 29 (0, 0)) (by (with_reducible repeat (first | refine blk_drewN ?_ _ | refine blk_drew ?_ | refine blk_alloc ?_ _)); exact BK399.out) hb)
                            have n5_ := Aside0.mk (blk_below (g := gb400) (o := .cells #[.bool x401000_2, .bool x401001_2, u401002, .int .i64 x401003_2, .bool x401004_2] 29 (0, 0)) (by (with_reducible repeat (first | refine blk_drewN ?_ _ | refine blk_drew ?_ | refine blk_alloc ?_ _)); exact BK400.out) hb)
                            have n6_ := Aside0.mk (below_step (by repeat (first | (with_reducible first | exact HB.out | apply below_alloc | apply pw_below_drewN | apply below_drew1 | refine below_set ?_ GE399.out | refine below_set ?_ GE400.out) | exact HB.out)) hb)
                            clear HO_7
                            clear HO_400002
                            clear HO_401002
                            clear BK399
                            clear BK400
                            clear HB
                            have HO_7 := n0_
                            have HO_400002 := n1_
                            have HO_401002 := n2_
                            have HO426 := n3_
                            have BK399 := n4_
                            have BK400 := n5_
                            have HB := n6_
                            clear n0_ n1_ n2_ n3_ n4_ n5_ n6_
                            (try clear hb)
                            (try clear hb2)
                            (try clear hk)
                            (try clear hi)
                            (try clear ho0)
                            obtain ⟨Ao75, co75, eo75⟩ := Kd.R_slice HO_401002.out
                            (first | subst eo75 | (injection eo75 with f1_ f2_ f3_; have f4_ := f1_.symm; have f5_ := f3_.symm; clear f1_ f2_ f3_; subst f4_; subst f5_))
                            refine hK.out _ _ ⟨(blk_cell BK399.out 0).trans rfl, (blk_cell BK399.out 1).trans rfl, (blk_cell BK399.out 2).trans rfl, (blk_cell BK399.out 3).trans rfl, (blk_cell BK399.out 4).trans rfl, (blk_cell BK400.out 0).trans rfl, (blk_cell BK400.out 1).trans rfl, (blk_cell BK400.out 2).trans rfl, (blk_cell BK400.out 3).trans rfl, (blk_cell BK400.out 4).trans rfl⟩ (fun hHeld => ?_)
                            clear hK K
                            refine norm_ (a' := ?_) ?_ ?_
                            rotate_left
                            · show Act.put _ (some 71) _ = _
                              simp only [Act.put, List.setIfInBounds_toArray, List.set_cons_zero, List.set_cons_succ, i64_w, i32_w]
                              rfl
                            refine one_ (i := 5) (N := some 74) #[true, true, true, true, true, true, false, false] rfl rfl (one_of HT_.out (by kernel_rfl)) (by decide) (fun K hK => ?_)
                            refine goes_ Try.func14 (by kernel_rfl) rfl #[.slice Ao17 t382.length co17, .agg #[.bool x401000_2, .bool x401001_2, .slice Ao75 x401002_2.length co75, .int .i64 x401003_2, .bool x401004_2], .bool true] (by rfl) rfl rfl (by (try simp only [List.map_toArray, List.map_cons, List.map_nil]); first | done | rfl | (simp only [List.length_drop, List.length_take]; rfl)) ?_
                            with_reducible refine (repriseref11_Again.calls kj29 _ _ t382 x401000_2 x401001_2 (fun k_ => some k_ = (.slice Ao75 x401002_2.length co75 : Value).ownBlock) (.slice Ao75 x401002_2.length co75) x401002_2 x401003_2 x401004_2 true t429 t430 t431 t434 t435 w _ ?side1 ?side2 ?side3 ?side4 A69.out).mono ?_
                            (case side1 => repeat (first | (with_reducible first | exact HB.out | apply below_alloc | apply pw_below_drewN | apply below_drew1 | refine below_set ?_ GE399.out | refine below_set ?_ GE400.out) | exact HB.out))
                            (case side2 => exact Kd.C_kept_ownQ ((Kd.Q_apart' HO_7.out (Kd.R_typed HO_401002.out) (by decide))) (fun k_ hk_ hs_ => (hk_.2) hs_))
                            (case side3 => exact (Kd.Q_reads' HO_7.out).2.1)
                            (case side4 => exact Kd.R_tight rfl HO_401002.out)
                            rintro e w76 ⟨v432, rfl, ho0, hb, hkp⟩
                            refine ⟨_, rfl, ?_⟩
                            have n0_ := Aside0.mk (Kd.Q_mono (ok' := fun k_ => True) (Kd.Q_keptB ((Kd.Q_apart' HO_7.out (Kd.R_typed HO_401002.out) (by decide))) hkp (fun k_ hk_ hs_ => (hk_.2) hs_)) (fun k_ hk_ => trivial))
                            have n1_ := Aside0.mk (Kd.R_mono (ok' := fun k_ => some k_ ≠ (v425 : Value).ownBlock ∧ some k_ ≠ (v432 : Value).ownBlock) (Kd.R_keptB (HO_400002.out) hkp (fun k_ hk_ hs_ => (hk_.1) hs_)) (fun k_ hk_ => ⟨hk_.1.2, fun e_ => Or.elim (ho0.1 k_ e_.symm) (fun hs_ => hk_.2.1 hs_) (fun hn_ => Nat.not_le.2 hk_.2.2 hn_)⟩))
                            have n2_ := Aside0.mk (blk_kept (by (with_reducible repeat (first | refine blk_drewN ?_ _ | refine blk_drew ?_ | refine blk_alloc ?_ _)); exact BK399.out) hkp (fun hs_ => (fun e_ => (Kd.R_ne HO_401002.out BK399.out (by decide)) e_) hs_))
                            have n3_ := Aside0.mk (blk_kept (by (with_reducible repeat (first | refine blk_drewN ?_ _ | refine blk_drew ?_ | refine blk_alloc ?_ _)); exact BK400.out) hkp (fun hs_ => (fun e_ => (Kd.R_ne HO_401002.out BK400.out (by decide)) e_) hs_))
                            have n4_ := Aside0.mk (Kd.R_mono (ok' := fun k_ => some k_ ≠ (.slice Ao73 x400002_2.length co73 : Value).ownBlock ∧ some k_ ≠ (v432 : Value).ownBlock) (Kd.R_keptB (HO426.out) hkp (fun k_ hk_ hs_ => (hk_.2) hs_)) (fun k_ hk_ => ⟨hk_.1.1.2, fun e_ => Or.elim (ho0.1 k_ e_.symm) (fun hs_ => hk_.2.1 hs_) (fun hn_ => Nat.not_le.2 hk_.2.2 hn_)⟩))
                            have n5_ := Aside0.mk (Kd.R_mono (ok' := fun k_ => some k_ ≠ (.slice Ao73 x400002_2.length co73 : Value).ownBlock ∧ some k_ ≠ (v425 : Value).ownBlock) ho0 (fun k_ hk_ => ⟨Or.elim hk_ (fun hs_ => fun e_ => (((HO_400002.out).1 k_ e_.symm).1) hs_) (fun hn_ => (Kd.fresh' (Kd.R_lt (by (with_reducible repeat (first | apply Kd.R_alloc | apply Kd.R_drewN | apply Kd.R_drew)); exact HO_400002.out)) k_ hn_)), Or.elim hk_ (fun hs_ => fun e_ => (((HO426.out).1 k_ e_.symm).2) hs_) (fun hn_ => (Kd.fresh' (Kd.R_lt (by (with_reducible repeat (first | apply Kd.R_alloc | apply Kd.R_drewN | apply Kd.R_drew)); exact HO426.out)) k_ hn_))⟩))
                            have n6_ := Aside0.mk (hb)
                            clear HO_7
                            clear HO_400002
                            clear BK399
                            clear BK400
                            clear HO426
                            clear HB
                            clear HO_401002
                            have HO_7 := n0_
                            have HO_400002 := n1_
                            have BK399 := n2_
                            have BK400 := n3_
                            have HO426 := n4_
                            have HO433 := n5_
                            have HB := n6_
                            clear n0_ n1_ n2_ n3_ n4_ n5_ n6_
                            (try clear hb)
                            (try clear hkp)
                            (try clear ho0)
                            obtain ⟨Ao79, co79, eo79⟩ := Kd.R_slice HO426.out
                            (first | subst eo79 | (injection eo79 with f1_ f2_ f3_; have f4_ := f1_.symm; have f5_ := f3_.symm; clear f1_ f2_ f3_; subst f4_; subst f5_))
                            obtain ⟨Ao85, co85, eo85⟩ := Kd.R_slice HO433.out
                            (first | subst eo85 | (injection eo85 with f1_ f2_ f3_; have f4_ := f1_.symm; have f5_ := f3_.symm; clear f1_ f2_ f3_; subst f4_; subst f5_))
                            refine hK.out _ _ ⟨(blk_cell BK399.out 0).trans rfl, (blk_cell BK399.out 1).trans rfl, (blk_cell BK399.out 2).trans rfl, (blk_cell BK399.out 3).trans rfl, (blk_cell BK399.out 4).trans rfl, (blk_cell BK400.out 0).trans rfl, (blk_cell BK400.out 1).trans rfl, (blk_cell BK400.out 2).trans rfl, (blk_cell BK400.out 3).trans rfl, (blk_cell BK400.out 4).trans rfl⟩ (fun hHeld => ?_)
                            clear hK K
                            refine norm_ (a' := ?_) ?_ ?_
                            rotate_left
                            · show Act.put _ (some 74) _ = _
                              simp only [Act.put, List.setIfInBounds_toArray, List.set_cons_zero, List.set_cons_succ, i64_w, i32_w]
                              rfl
                            refine last_ (i := 6) (N := none) #[true, true, true, true, true, true, true, false] rfl rfl (one_of HT_.out (by kernel_rfl)) (by decide) (fun K hK => ?_)
                            have hs77 : w76.cell? ⟨gb399, 0, none⟩ = some (.bool x400000_2) := (blk_cell BK399.out 0).trans rfl
                            have hfs77 := blk_frozen BK399.out 0
                            have hns77_1 := NB400_399.out
                            have hms77_1 := NB399_400.out
                            have hs78 : w76.cell? ⟨gb399, 1, none⟩ = some (.bool x400001_2) := (blk_cell BK399.out 1).trans rfl
                            have hfs78 := blk_frozen BK399.out 1
                            have hns78_1 := NB400_399.out
                            have hms78_1 := NB399_400.out
                            have hs80 : w76.cell? ⟨gb399, 2, none⟩ = some (.slice Ao73 x400002_2.length co73) := (blk_cell BK399.out 2).trans rfl
                            have hfs80 := blk_frozen BK399.out 2
                            have hns80_1 := NB400_399.out
                            have hms80_1 := NB399_400.out
                            have hs81 : w76.cell? ⟨gb399, 3, none⟩ = some (.int .i64 x400003_2) := (blk_cell BK399.out 3).trans rfl
                            have hfs81 := blk_frozen BK399.out 3
                            have hns81_1 := NB400_399.out
                            have hms81_1 := NB399_400.out
                            have hs82 : w76.cell? ⟨gb399, 4, none⟩ = some (.bool x400004_2) := (blk_cell BK399.out 4).trans rfl
                            have hfs82 := blk_frozen BK399.out 4
                            have hns82_1 := NB400_399.out
                            have hms82_1 := NB399_400.out
                            refine skip_ (w1 := ?_) (by rfl) rfl ?_ ?_
                            rotate_left
                            · go_simp
                              rfl
                            refine hK.out _ _ ?_
                            clear hK K
                            refine last_ (i := 7) (N := none) #[true, true, true, true, true, true, true, true] rfl rfl (one_of HT_.out (by kernel_rfl)) (by decide) (fun K hK => ?_)
                            have hs83 : w76.cell? ⟨gb400, 0, none⟩ = some (.bool x401000_2) := (blk_cell BK400.out 0).trans rfl
                            have hfs83 := blk_frozen BK400.out 0
                            have hns83_0 := NB399_400.out
                            have hms83_0 := NB400_399.out
                            have hs84 : w76.cell? ⟨gb400, 1, none⟩ = some (.bool x401001_2) := (blk_cell BK400.out 1).trans rfl
                            have hfs84 := blk_frozen BK400.out 1
                            have hns84_0 := NB399_400.out
                            have hms84_0 := NB400_399.out
                            have hs86 : w76.cell? ⟨gb400, 2, none⟩ = some (.slice Ao75 x401002_2.length co75) := (blk_cell BK400.out 2).trans rfl
                            have hfs86 := blk_frozen BK400.out 2
                            have hns86_0 := NB399_400.out
                            have hms86_0 := NB400_399.out
                            have hs87 : w76.cell? ⟨gb400, 3, none⟩ = some (.int .i64 x401003_2) := (blk_cell BK400.out 3).trans rfl
                            have hfs87 := blk_frozen BK400.out 3
                            have hns87_0 := NB399_400.out
                            have hms87_0 := NB400_399.out
                            have hs88 : w76.cell? ⟨gb400, 4, none⟩ = some (.bool x401004_2) := (blk_cell BK400.out 4).trans rfl
                            have hfs88 := blk_frozen BK400.out 4
                            have hns88_0 := NB399_400.out
                            have hms88_0 := NB400_399.out
                            refine skip_ (w1 := ?_) (by rfl) rfl ?_ ?_
                            rotate_left
                            · go_simp
                              rfl
                            refine hK.out _ _ ?_
                            clear hK K
                            refine done_ (done_of HT_.out (by kernel_rfl)) ?_
                            have hnb89 := NB399_400.out
                            have hnc89 := NB400_399.out
                            have hcz90_0 : w76.cell? ⟨gb399, 0, none⟩ = some (.bool x400000_2) := (blk_cell BK399.out 0).trans rfl
                            have hcz90_1 : w76.cell? ⟨gb399, 1, none⟩ = some (.bool x400001_2) := (blk_cell BK399.out 1).trans rfl
                            have hcz90_2 : w76.cell? ⟨gb399, 2, none⟩ = some (.slice Ao73 x400002_2.length co73) := (blk_cell BK399.out 2).trans rfl
                            have hcz90_3 : w76.cell? ⟨gb399, 3, none⟩ = some (.int .i64 x400003_2) := (blk_cell BK399.out 3).trans rfl
                            have hcz90_4 : w76.cell? ⟨gb399, 4, none⟩ = some (.bool x400004_2) := (blk_cell BK399.out 4).trans rfl
                            have hfz90_0 := blk_frozen BK399.out 0
                            have hfz90_1 := blk_frozen BK399.out 1
                            have hfz90_2 := blk_frozen BK399.out 2
                            have hfz90_3 := blk_frozen BK399.out 3
                            have hfz90_4 := blk_frozen BK399.out 4
                            have hcz91_0 : w76.cell? ⟨gb400, 0, none⟩ = some (.bool x401000_2) := (blk_cell BK400.out 0).trans rfl
                            have hcz91_1 : w76.cell? ⟨gb400, 1, none⟩ = some (.bool x401001_2) := (blk_cell BK400.out 1).trans rfl
                            have hcz91_2 : w76.cell? ⟨gb400, 2, none⟩ = some (.slice Ao75 x401002_2.length co75) := (blk_cell BK400.out 2).trans rfl
                            have hcz91_3 : w76.cell? ⟨gb400, 3, none⟩ = some (.int .i64 x401003_2) := (blk_cell BK400.out 3).trans rfl
                            have hcz91_4 : w76.cell? ⟨gb400, 4, none⟩ = some (.bool x401004_2) := (blk_cell BK400.out 4).trans rfl
                            have hfz91_0 := blk_frozen BK400.out 0
                            have hfz91_1 := blk_frozen BK400.out 1
                            have hfz91_2 := blk_frozen BK400.out 2
                            have hfz91_3 := blk_frozen BK400.out 3
                            have hfz91_4 := blk_frozen BK400.out 4
                            try go_wp2_with (first | ((with_reducible refine gate_callee (f := 17) rfl ?_); refine goesL_ (some 85) rfl rfl Try.func17 (by kernel_rfl) rfl #[.agg #[.bool t422, .bool t423, .slice Ao79 t424.length co79, .int .i64 t427, .bool t428], .agg #[.bool t429, .bool t430, .slice Ao85 t431.length co85, .int .i64 t434, .bool t435]] rfl (by (try simp only [List.map_toArray, List.map_cons, List.map_nil]); first | done | rfl | (simp only [List.length_drop, List.length_take]; rfl)) ?_; (with_reducible refine (reprisehelp_Search.calls kj29 t422 t423 _ _ t424 t427 t428 t429 t430 _ _ t431 t434 t435 true _ ?side1 ?side2 ?side3 ?side4 A70.out).mono ?_); (case side1 => refine (Kd.R_reads' (e := 21) (base := w.heap.size) (ok := fun k_ => (some k_ ≠ (.slice Ao73 x400002_2.length co73 : Value).ownBlock ∧ some k_ ≠ (.slice Ao85 t431.length co85 : Value).ownBlock)) (n := t424.length) (c := co79) ?_).2.2; exact (by (with_reducible repeat (first | apply Kd.R_alloc | apply Kd.R_drewN | apply Kd.R_drew)); exact (Kd.R_mono (Kd.R_mono (Kd.R_far (p := ⟨gb400, 4, none⟩) (Kd.R_far (p := ⟨gb400, 3, none⟩) (Kd.R_far (p := ⟨gb400, 2, none⟩) (Kd.R_far (p := ⟨gb400, 1, none⟩) (Kd.R_far (p := ⟨gb400, 0, none⟩) (Kd.R_far (p := ⟨gb399, 4, none⟩) (Kd.R_far (p := ⟨gb399, 3, none⟩) (Kd.R_far (p := ⟨gb399, 2, none⟩) (Kd.R_far (p := ⟨gb399, 1, none⟩) (Kd.R_far (p := ⟨gb399, 0, none⟩) (Kd.R_types (Kd.R_types HO426.out BK399.out (by decide)) BK400.out (by decide)) (fun _ hk => hk.1.2) (.bool t422)) (fun _ hk => hk.1.2) (.bool t423)) (fun _ hk => hk.1.2) (.slice Ao79 t424.length co79)) (fun _ hk => hk.1.2) (.int .i64 t427)) (fun _ hk => hk.1.2) (.bool t428)) (fun _ hk => hk.2) (.bool t429)) (fun _ hk => hk.2) (.bool t430)) (fun _ hk => hk.2) (.slice Ao85 t431.length co85)) (fun _ hk => hk.2) (.int .i64 t434)) (fun _ hk => hk.2) (.bool t435)) (fun _ h_ => h_.1)) (fun _ h_ => h_.1)))); (case side2 => exact (Kd.R_reads' HO426.out).2.1); (case side3 => refine (Kd.R_reads' (e := 21) (base := w.heap.size) (ok := fun k_ => (some k_ ≠ (.slice Ao73 x400002_2.length co73 : Value).ownBlock ∧ some k_ ≠ (.slice Ao79 t424.length co79 : Value).ownBlock)) (n := t431.length) (c := co85) ?_).2.2; exact (by (with_reducible repeat (first | apply Kd.R_alloc | apply Kd.R_drewN | apply Kd.R_drew)); exact (Kd.R_mono (Kd.R_mono (Kd.R_far (p := ⟨gb400, 4, none⟩) (Kd.R_far (p := ⟨gb400, 3, none⟩) (Kd.R_far (p := ⟨gb400, 2, none⟩) (Kd.R_far (p := ⟨gb400, 1, none⟩) (Kd.R_far (p := ⟨gb400, 0, none⟩) (Kd.R_far (p := ⟨gb399, 4, none⟩) (Kd.R_far (p := ⟨gb399, 3, none⟩) (Kd.R_far (p := ⟨gb399, 2, none⟩) (Kd.R_far (p := ⟨gb399, 1, none⟩) (Kd.R_far (p := ⟨gb399, 0, none⟩) (Kd.R_types (Kd.R_types HO433.out BK399.out (by decide)) BK400.out (by decide)) (fun _ hk => hk.1.2) (.bool t422)) (fun _ hk => hk.1.2) (.bool t423)) (fun _ hk => hk.1.2) (.slice Ao79 t424.length co79)) (fun _ hk => hk.1.2) (.int .i64 t427)) (fun _ hk => hk.1.2) (.bool t428)) (fun _ hk => hk.2) (.bool t429)) (fun _ hk => hk.2) (.bool t430)) (fun _ hk => hk.2) (.slice Ao85 t431.length co85)) (fun _ hk => hk.2) (.int .i64 t434)) (fun _ hk => hk.2) (.bool t435)) (fun _ h_ => h_.1)) (fun _ h_ => h_.1)))); (case side4 => exact (Kd.R_reads' HO433.out).2.1); rintro e w92 ⟨rfl, hb⟩; refine ⟨_, rfl, ?_⟩; have n0_ := Aside0.mk (Kd.Q_below (by (with_reducible repeat (first | apply Kd.Q_alloc | apply Kd.Q_drewN | apply Kd.Q_drew)); exact (Kd.Q_mono (Kd.Q_mono (Kd.Q_far (p := ⟨gb400, 4, none⟩) (Kd.Q_far (p := ⟨gb400, 3, none⟩) (Kd.Q_far (p := ⟨gb400, 2, none⟩) (Kd.Q_far (p := ⟨gb400, 1, none⟩) (Kd.Q_far (p := ⟨gb400, 0, none⟩) (Kd.Q_far (p := ⟨gb399, 4, none⟩) (Kd.Q_far (p := ⟨gb399, 3, none⟩) (Kd.Q_far (p := ⟨gb399, 2, none⟩) (Kd.Q_far (p := ⟨gb399, 1, none⟩) (Kd.Q_far (p := ⟨gb399, 0, none⟩) (Kd.Q_types (Kd.Q_types HO_7.out BK399.out (by decide)) BK400.out (by decide)) (fun _ hk => hk.1.2) (.bool t422)) (fun _ hk => hk.1.2) (.bool t423)) (fun _ hk => hk.1.2) (.slice Ao79 t424.length co79)) (fun _ hk => hk.1.2) (.int .i64 t427)) (fun _ hk => hk.1.2) (.bool t428)) (fun _ hk => hk.2) (.bool t429)) (fun _ hk => hk.2) (.bool t430)) (fun _ hk => hk.2) (.slice Ao85 t431.length co85)) (fun _ hk => hk.2) (.int .i64 t434)) (fun _ hk => hk.2) (.bool t435)) (fun _ h_ => h_.1)) (fun _ h_ => h_.1))) hb); have n1_ := Aside0.mk (Kd.R_below (by (with_reducible repeat (first | apply Kd.R_alloc | apply Kd.R_drewN | apply Kd.R_drew)); exact (Kd.R_mono (Kd.R_mono (Kd.R_far (p := ⟨gb400, 4, none⟩) (Kd.R_far (p := ⟨gb400, 3, none⟩) (Kd.R_far (p := ⟨gb400, 2, none⟩) (Kd.R_far (p := ⟨gb400, 1, none⟩) (Kd.R_far (p := ⟨gb400, 0, none⟩) (Kd.R_far (p := ⟨gb399, 4, none⟩) (Kd.R_far (p := ⟨gb399, 3, none⟩) (Kd.R_far (p := ⟨gb399, 2, none⟩) (Kd.R_far (p := ⟨gb399, 1, none⟩) (Kd.R_far (p := ⟨gb399, 0, none⟩) (Kd.R_types (Kd.R_types HO_400002.out BK399.out (by decide)) BK400.out (by decide)) (fun _ hk => hk.1.2) (.bool t422)) (fun _ hk => hk.1.2) (.bool t423)) (fun _ hk => hk.1.2) (.slice Ao79 t424.length co79)) (fun _ hk => hk.1.2) (.int .i64 t427)) (fun _ hk => hk.1.2) (.bool t428)) (fun _ hk => hk.2) (.bool t429)) (fun _ hk => hk.2) (.bool t430)) (fun _ hk => hk.2) (.slice Ao85 t431.length co85)) (fun _ hk => hk.2) (.int .i64 t434)) (fun _ hk => hk.2) (.bool t435)) (fun _ h_ => h_.1)) (fun _ h_ => h_.1))) hb); have n2_ := Aside0.mk (Kd.R_below (by (with_reducible repeat (first | apply Kd.R_alloc | apply Kd.R_drewN | apply Kd.R_drew)); exact (Kd.R_mono (Kd.R_mono (Kd.R_far (p := ⟨gb400, 4, none⟩) (Kd.R_far (p := ⟨gb400, 3, none⟩) (Kd.R_far (p := ⟨gb400, 2, none⟩) (Kd.R_far (p := ⟨gb400, 1, none⟩) (Kd.R_far (p := ⟨gb400, 0, none⟩) (Kd.R_far (p := ⟨gb399, 4, none⟩) (Kd.R_far (p := ⟨gb399, 3, none⟩) (Kd.R_far (p := ⟨gb399, 2, none⟩) (Kd.R_far (p := ⟨gb399, 1, none⟩) (Kd.R_far (p := ⟨gb399, 0, none⟩) (Kd.R_types (Kd.R_types HO426.out BK399.out (by decide)) BK400.out (by decide)) (fun _ hk => hk.1.2) (.bool t422)) (fun _ hk => hk.1.2) (.bool t423)) (fun _ hk => hk.1.2) (.slice Ao79 t424.length co79)) (fun _ hk => hk.1.2) (.int .i64 t427)) (fun _ hk => hk.1.2) (.bool t428)) (fun _ hk => hk.2) (.bool t429)) (fun _ hk => hk.2) (.bool t430)) (fun _ hk => hk.2) (.slice Ao85 t431.length co85)) (fun _ hk => hk.2) (.int .i64 t434)) (fun _ hk => hk.2) (.bool t435)) (fun _ h_ => h_.1)) (fun _ h_ => h_.1))) hb); have n3_ := Aside0.mk (Kd.R_below (by (with_reducible repeat (first | apply Kd.R_alloc | apply Kd.R_drewN | apply Kd.R_drew)); exact (Kd.R_mono (Kd.R_mono (Kd.R_far (p := ⟨gb400, 4, none⟩) (Kd.R_far (p := ⟨gb400, 3, none⟩) (Kd.R_far (p := ⟨gb400, 2, none⟩) (Kd.R_far (p := ⟨gb400, 1, none⟩) (Kd.R_far (p := ⟨gb400, 0, none⟩) (Kd.R_far (p := ⟨gb399, 4, none⟩) (Kd.R_far (p := ⟨gb399, 3, none⟩) (Kd.R_far (p := ⟨gb399, 2, none⟩) (Kd.R_far (p := ⟨gb399, 1, none⟩) (Kd.R_far (p := ⟨gb399, 0, none⟩) (Kd.R_types (Kd.R_types HO433.out BK399.out (by decide)) BK400.out (by decide)) (fun _ hk => hk.1.2) (.bool t422)) (fun _ hk => hk.1.2) (.bool t423)) (fun _ hk => hk.1.2) (.slice Ao79 t424.length co79)) (fun _ hk => hk.1.2) (.int .i64 t427)) (fun _ hk => hk.1.2) (.bool t428)) (fun _ hk => hk.2) (.bool t429)) (fun _ hk => hk.2) (.bool t430)) (fun _ hk => hk.2) (.slice Ao85 t431.length co85)) (fun _ hk => hk.2) (.int .i64 t434)) (fun _ hk => hk.2) (.bool t435)) (fun _ h_ => h_.1)) (fun _ h_ => h_.1))) hb); have n4_ := Aside0.mk (blk_below (g := gb399) (o := .cells #[.bool t422, .bool t423, .slice Ao79 t424.length co79, .int .i64 t427, .bool t428] 29 (0, 0)) (by (with_reducible repeat (first | refine blk_drewN ?_ _ | refine blk_drew ?_ | refine blk_alloc ?_ _)); refine blk_far ?_ NB399_400.out _; (with_reducible repeat (first | refine blk_drewN ?_ _ | refine blk_drew ?_ | refine blk_alloc ?_ _)); refine blk_far ?_ NB399_400.out _; (with_reducible repeat (first | refine blk_drewN ?_ _ | refine blk_drew ?_ | refine blk_alloc ?_ _)); refine blk_far ?_ NB399_400.out _; (with_reducible repeat (first | refine blk_drewN ?_ _ | refine blk_drew ?_ | refine blk_alloc ?_ _)); refine blk_far ?_ NB399_400.out _; (with_reducible repeat (first | refine blk_drewN ?_ _ | refine blk_drew ?_ | refine blk_alloc ?_ _)); refine blk_far ?_ NB399_400.out _; (with_reducible repeat (first | refine blk_drewN ?_ _ | refine blk_drew ?_ | refine blk_alloc ?_ _)); refine blk_put (cs := #[.bool t422, .bool t423, .slice Ao79 t424.length co79, .int .i64 t427, .bool x400004_2]) ?_ 4 _ rfl; (with_reducible repeat (first | refine blk_drewN ?_ _ | refine blk_drew ?_ | refine blk_alloc ?_ _)); refine blk_put (cs := #[.bool t422, .bool t423, .slice Ao79 t424.length co79, .int .i64 x400003_2, .bool x400004_2]) ?_ 3 _ rfl; (with_reducible repeat (first | refine blk_drewN ?_ _ | refine blk_drew ?_ | refine blk_alloc ?_ _)); refine blk_put (cs := #[.bool t422, .bool t423, .slice Ao73 x400002_2.length co73, .int .i64 x400003_2, .bool x400004_2]) ?_ 2 _ rfl; (with_reducible repeat (first | refine blk_drewN ?_ _ | refine blk_drew ?_ | refine blk_alloc ?_ _)); refine blk_put (cs := #[.bool t422, .bool x400001_2, .slice Ao73 x400002_2.length co73, .int .i64 x400003_2, .bool x400004_2]) ?_ 1 _ rfl; (with_reducible repeat (first | refine blk_drewN ?_ _ | refine blk_drew ?_ | refine blk_alloc ?_ _)); refine blk_put (cs := #[.bool x400000_2, .bool x400001_2, .slice Ao73 x400002_2.length co73, .int .i64 x400003_2, .bool x400004_2]) ?_ 0 _ rfl; (with_reducible repeat (first | refine blk_drewN ?_ _ | refine blk_drew ?_ | refine blk_alloc ?_ _)); exact BK399.out) hb); have n5_ := Aside0.mk (blk_below (g := gb400) (o := .cells #[.bool t429, .bool t430, .slice Ao85 t431.length co85, .int .i64 t434, .bool t435] 29 (0, 0)) (by (with_reducible repeat (first | refine blk_drewN ?_ _ | refine blk_drew ?_ | refine blk_alloc ?_ _)); refine blk_put (cs := #[.bool t429, .bool t430, .slice Ao85 t431.length co85, .int .i64 t434, .bool x401004_2]) ?_ 4 _ rfl; (with_reducible repeat (first | refine blk_drewN ?_ _ | refine blk_drew ?_ | refine blk_alloc ?_ _)); refine blk_put (cs := #[.bool t429, .bool t430, .slice Ao85 t431.length co85, .int .i64 x401003_2, .bool x401004_2]) ?_ 3 _ rfl; (with_reducible repeat (first | refine blk_drewN ?_ _ | refine blk_drew ?_ | refine blk_alloc ?_ _)); refine blk_put (cs := #[.bool t429, .bool t430, .slice Ao75 x401002_2.length co75, .int .i64 x401003_2, .bool x401004_2]) ?_ 2 _ rfl; (with_reducible repeat (first | refine blk_drewN ?_ _ | refine blk_drew ?_ | refine blk_alloc ?_ _)); refine blk_put (cs := #[.bool t429, .bool x401001_2, .slice Ao75 x401002_2.length co75, .int .i64 x401003_2, .bool x401004_2]) ?_ 1 _ rfl; (with_reducible repeat (first | refine blk_drewN ?_ _ | refine blk_drew ?_ | refine blk_alloc ?_ _)); refine blk_put (cs := #[.bool x401000_2, .bool x401001_2, .slice Ao75 x401002_2.length co75, .int .i64 x401003_2, .bool x401004_2]) ?_ 0 _ rfl; (with_reducible repeat (first | refine blk_drewN ?_ _ | refine blk_drew ?_ | refine blk_alloc ?_ _)); refine blk_far ?_ NB400_399.out _; (with_reducible repeat (first | refine blk_drewN ?_ _ | refine blk_drew ?_ | refine blk_alloc ?_ _)); refine blk_far ?_ NB400_399.out _; (with_reducible repeat (first | refine blk_drewN ?_ _ | refine blk_drew ?_ | refine blk_alloc ?_ _)); refine blk_far ?_ NB400_399.out _; (with_reducible repeat (first | refine blk_drewN ?_ _ | refine blk_drew ?_ | refine blk_alloc ?_ _)); refine blk_far ?_ NB400_399.out _; (with_reducible repeat (first | refine blk_drewN ?_ _ | refine blk_drew ?_ | refine blk_alloc ?_ _)); refine blk_far ?_ NB400_399.out _; (with_reducible repeat (first | refine blk_drewN ?_ _ | refine blk_drew ?_ | refine blk_alloc ?_ _)); exact BK400.out) hb); have n6_ := Aside0.mk (below_step (by repeat (first | (with_reducible first | exact HB.out | apply below_alloc | apply pw_below_drewN | apply below_drew1 | refine below_set ?_ GE399.out | refine below_set ?_ GE400.out) | exact HB.out)) hb); clear HO_7; clear HO_400002; clear HO426; clear HO433; clear BK399; clear BK400; clear HB; have HO_7 := n0_; have HO_400002 := n1_; have HO426 := n2_; have HO433 := n3_; have BK399 := n4_; have BK400 := n5_; have HB := n6_; clear n0_ n1_ n2_ n3_ n4_ n5_ n6_; (try clear hb); (try clear hb2); (try clear hk); (try clear hi)))
                            go_roundg kj29
                            case measure => have := HJ5.out; have := HK2.out; have := HJ29.out; omega
                            case rel => exact ⟨(wrap64 (x10_2 + 1)), (t422), (t423), (t424), (t427), (t428), (t429), (t430), (t431), (t434), (t435), (.slice Ao79 t424.length co79), (.slice Ao85 t431.length co85), (by first | rfl | (simp; done) | (simp [*]; done)), H', ⟨by have := HJ5.out; have := HK2.out; have := HJ29.out; omega⟩, ⟨by (with_reducible repeat (first | apply Kd.Q_alloc | apply Kd.Q_drewN | apply Kd.Q_drew)); exact HO_7.out⟩, ⟨by (with_reducible repeat (first | apply Kd.R_alloc | apply Kd.R_drewN | apply Kd.R_drew)); exact Kd.R_mono HO426.out (fun _ hk => hk.2)⟩, ⟨by (with_reducible repeat (first | apply Kd.R_alloc | apply Kd.R_drewN | apply Kd.R_drew)); exact Kd.R_mono HO433.out (fun _ hk => hk.2)⟩, ⟨by (with_reducible repeat (first | refine blk_drewN ?_ _ | refine blk_drew ?_ | refine blk_alloc ?_ _)); exact BK399.out⟩, ⟨by (with_reducible repeat (first | refine blk_drewN ?_ _ | refine blk_drew ?_ | refine blk_alloc ?_ _)); exact BK400.out⟩, ⟨by repeat (first | (with_reducible first | exact HB.out | apply below_alloc | apply pw_below_drewN | apply below_drew1 | refine below_set ?_ GE399.out | refine below_set ?_ GE400.out) | exact HB.out)⟩⟩
                          · replace c71 := Bool.eq_false_iff.mpr c71
                            subst c71
                            have H1 : (none) = some r := by rw [if_neg (show ¬ (false = true) by decide)] at H; exact H
                            clear H
                            have H := H1
                            clear H1
                            exact absurd H (by simp)
                        · rw [if_neg c67] at H
                          have c67b0 : ((Int.tmod (rd l1 x10_2) 6) == 3) = false := beq_eq_false_iff_ne.mpr c67
                          have c67b1 : ((Int.tmod (rd l1 x10_2) 6) != 3) = true := bne_iff_ne.mpr c67
                          by_cases c93 : (Int.tmod (rd l1 x10_2) 6) = 4
                          · rw [if_pos c93] at H
                            have c93b0 : ((Int.tmod (rd l1 x10_2) 6) == 4) = true := beq_iff_eq.mpr c93
                            have c93b1 : ((Int.tmod (rd l1 x10_2) 6) != 4) = false := bne_eq_false_iff_eq.mpr c93
                            clear c93
                            replace H := Option.bind_eq_some_iff.mp H
                            obtain ⟨⟨t437, t438, t439, t442, t443⟩, A940, H⟩ := H
                            replace H : ((repriseref11_Again.f kj29 t382 x401000_2 x401001_2 x401002_2 x401003_2 x401004_2 false).bind fun bt444 => ((reprisehelp_Search.f kj29 t437 t438 t439 t442 t443 bt444.1 bt444.2.1 bt444.2.2.1 bt444.2.2.2.1 bt444.2.2.2.2).bind fun t451 => (if t451 = true then (repriselaw16_SearchPlays.l0 kj29 l1 t382 (wrap64 (x10_2 + 1)) t437 t438 t439 t442 t443 bt444.1 bt444.2.1 bt444.2.2.1 bt444.2.2.2.1 bt444.2.2.2.2) else (none)))) = some r := H
                            have A94 := Aside0.mk A940
                            clear A940
                            replace H := Option.bind_eq_some_iff.mp H
                            obtain ⟨⟨t444, t445, t446, t449, t450⟩, A950, H⟩ := H
                            replace H : ((reprisehelp_Search.f kj29 t437 t438 t439 t442 t443 t444 t445 t446 t449 t450).bind fun t451 => (if t451 = true then (repriselaw16_SearchPlays.l0 kj29 l1 t382 (wrap64 (x10_2 + 1)) t437 t438 t439 t442 t443 t444 t445 t446 t449 t450) else (none))) = some r := H
                            have A95 := Aside0.mk A950
                            clear A950
                            replace H := Option.bind_eq_some_iff.mp H
                            obtain ⟨t451, A960, H⟩ := H
                            replace H : (if t451 = true then (repriselaw16_SearchPlays.l0 kj29 l1 t382 (wrap64 (x10_2 + 1)) t437 t438 t439 t442 t443 t444 t445 t446 t449 t450) else (none)) = some r := H
                            have A96 := Aside0.mk A960
                            clear A960
                            by_cases c97 : t451 = true
                            · subst c97
                              have H1 : (repriselaw16_SearchPlays.l0 kj29 l1 t382 (wrap64 (x10_2 + 1)) t437 t438 t439 t442 t443 t444 t445 t446 t449 t450) = some r := by rw [if_pos rfl] at H; exact H
                              clear H
                              have H := H1
                              clear H1
                              have H' := Aside0.mk H
                              clear H
                              try go_wp2
                              have n0_ := Aside0.mk (Kd.Q_drew HO_7.out)
                              have n1_ := Aside0.mk (Kd.R_drew HO_400002.out)
                              have n2_ := Aside0.mk (Kd.R_drew HO_401002.out)
                              have n3_ := Aside0.mk (blk_drew BK399.out)
                              have n4_ := Aside0.mk (blk_drew BK400.out)
                              have n5_ := Aside0.mk (below_drew1 HB.out)
                              clear HO_7
                              clear HO_400002
                              clear HO_401002
                              clear BK399
                              clear BK400
                              clear HB
                              have HO_7 := n0_
                              have HO_400002 := n1_
                              have HO_401002 := n2_
                              have BK399 := n3_
                              have BK400 := n4_
                              have HB := n5_
                              clear n0_ n1_ n2_ n3_ n4_ n5_
                              obtain ⟨Ao99, co99, eo99⟩ := Kd.R_slice HO_400002.out
                              (first | subst eo99 | (injection eo99 with f1_ f2_ f3_; have f4_ := f1_.symm; have f5_ := f3_.symm; clear f1_ f2_ f3_; subst f4_; subst f5_))
                              refine start_ (n := 8) (S := fun w' => w'.cell? ⟨gb399, 0, none⟩ = some (.bool x400000_2) ∧ w'.cell? ⟨gb399, 1, none⟩ = some (.bool x400001_2) ∧ w'.cell? ⟨gb399, 2, none⟩ = some (.slice Ao99 x400002_2.length co99) ∧ w'.cell? ⟨gb399, 3, none⟩ = some (.int .i64 x400003_2) ∧ w'.cell? ⟨gb399, 4, none⟩ = some (.bool x400004_2) ∧ w'.cell? ⟨gb400, 0, none⟩ = some (.bool x401000_2) ∧ w'.cell? ⟨gb400, 1, none⟩ = some (.bool x401001_2) ∧ w'.cell? ⟨gb400, 2, none⟩ = some (u401002) ∧ w'.cell? ⟨gb400, 3, none⟩ = some (.int .i64 x401003_2) ∧ w'.cell? ⟨gb400, 4, none⟩ = some (.bool x401004_2)) (ds := [6, 7]) #[false, false, false, false, false, false, false, false] (by kernel_rfl) rfl rfl ⟨(blk_cell BK399.out 0).trans rfl, (blk_cell BK399.out 1).trans rfl, (blk_cell BK399.out 2).trans rfl, (blk_cell BK399.out 3).trans rfl, (blk_cell BK399.out 4).trans rfl, (blk_cell BK400.out 0).trans rfl, (blk_cell BK400.out 1).trans rfl, (blk_cell BK400.out 2).trans rfl, (blk_cell BK400.out 3).trans rfl, (blk_cell BK400.out 4).trans rfl⟩ (fun hHeld => ?_); refine with_tabW repriselaw16_SearchPlays.tab20 repriselaw16_SearchPlays.bits20 (fun HT_ HW_ => ?_)
                              generalize wc.drew = w98 at HO_7 HO_400002 HO_401002 BK399 BK400 HB hHeld ⊢
                              refine pure_ (i := 0) (N := some 77) (v := ?_) (a' := ?_) #[true, false, false, false, false, false, false, false] rfl rfl (any_of HT_.out (by kernel_rfl)) (fun _ _ _ h => h) (Or.inl ⟨by rfl, ?_⟩) ?_ ?_
                              rotate_left
                              · intro w'
                                go_simp
                                with_reducible rfl
                              rotate_left
                              · simp only [Act.put, List.setIfInBounds_toArray, List.set_cons_zero, List.set_cons_succ, i64_w, i32_w]
                                rfl
                              refine pure_ (i := 3) (N := some 80) (v := ?_) (a' := ?_) #[true, false, false, true, false, false, false, false] rfl rfl (any_of HT_.out (by kernel_rfl)) (fun _ _ _ h => h) (Or.inl ⟨by rfl, ?_⟩) ?_ ?_
                              rotate_left
                              · intro w'
                                go_simp
                                with_reducible rfl
                              rotate_left
                              · simp only [Act.put, List.setIfInBounds_toArray, List.set_cons_zero, List.set_cons_succ, i64_w, i32_w]
                                rfl
                              refine take_ (i := 1) (N := some 78) (v := ?_) (a' := ?_) #[true, true, false, true, false, false, false, false] rfl rfl (take_ofW HT_.out HW_.out (by kernel_rfl)) (fun _ _ _ h => h) (Or.inl ⟨by rfl, ?_⟩) hHeld ?_ ?_
                              rotate_left
                              · rintro w' ⟨s0, s1, s2, s3, s4, s5, s6, s7, s8, s9⟩
                                go_simp
                                with_reducible rfl
                              rotate_left
                              · simp only [Act.put, List.setIfInBounds_toArray, List.set_cons_zero, List.set_cons_succ, i64_w, i32_w]
                                rfl
                              refine take_ (i := 4) (N := some 81) (v := ?_) (a' := ?_) #[true, true, false, true, true, false, false, false] rfl rfl (take_ofW HT_.out HW_.out (by kernel_rfl)) (fun _ _ _ h => h) (Or.inl ⟨by rfl, ?_⟩) hHeld ?_ ?_
                              rotate_left
                              · rintro w' ⟨s0, s1, s2, s3, s4, s5, s6, s7, s8, s9⟩
                                go_simp
                                with_reducible rfl
                              rotate_left
                              · simp only [Act.put, List.setIfInBounds_toArray, List.set_cons_zero, List.set_cons_succ, i64_w, i32_w]
                                rfl
                              refine one_ (i := 2) (N := some 79) #[true, true, true, true, true, false, false, false] rfl rfl (one_of HT_.out (by kernel_rfl)) (by decide) (fun K hK => ?_)
                              refine goes_ Try.func13 (by kernel_rfl) rfl #[.slice Ao17 t382.length co17, .agg #[.bool x400000_2, .bool x400001_2, .slice Ao99 x400002_2.length co99, .int .i64 x400003_2, .bool x400004_2], .bool false] (by rfl) rfl rfl (by (try simp only [List.map_toArray, List.map_cons, List.map_nil]); first | done | rfl | (simp only [List.length_drop, List.length_take]; rfl)) ?_
                              with_reducible refine (search_Again.calls kj29 _ _ t382 x400000_2 x400001_2 _ _ x400002_2 x400003_2 x400004_2 false t437 t438 t439 t442 t443 _ ?side1 ?side2 ?side3 ?side4 A94.out).mono ?_
                              (case side1 => repeat (first | exact (Kd.Q_reads' HO_7.out).2.2 | (with_reducible refine Kd.C_alloc ?_ _) | (with_reducible refine Kd.C_drewN ?_ _) | (with_reducible refine Kd.C_drew ?_)))
                              (case side2 => exact (Kd.Q_reads' HO_7.out).2.1)
                              (case side3 => repeat (first | exact (Kd.R_reads' HO_400002.out).2.2 | (with_reducible refine Kd.C_alloc ?_ _) | (with_reducible refine Kd.C_drewN ?_ _) | (with_reducible refine Kd.C_drew ?_)))
                              (case side4 => exact (Kd.R_reads' HO_400002.out).2.1)
                              rintro e w100 ⟨v440, rfl, ho0, hb⟩
                              refine ⟨_, rfl, ?_⟩
                              have n0_ := Aside0.mk (Kd.Q_below (by (with_reducible repeat (first | apply Kd.Q_alloc | apply Kd.Q_drewN | apply Kd.Q_drew)); exact HO_7.out) hb)
                              have n1_ := Aside0.mk (Kd.R_elder' (by (with_reducible repeat (first | apply Kd.R_alloc | apply Kd.R_drewN | apply Kd.R_drew)); exact HO_400002.out) (Kd.R_base ho0) hb)
                              have n2_ := Aside0.mk (Kd.R_elder' (by (with_reducible repeat (first | apply Kd.R_alloc | apply Kd.R_drewN | apply Kd.R_drew)); exact HO_401002.out) (Kd.R_base ho0) hb)
                              have n3_ := Aside0.mk (Kd.R_lower (Kd.R_new' (Kd.R_new' ho0 (Kd.R_lt (by (with_reducible repeat (first | apply Kd.R_alloc | apply Kd.R_drewN | apply Kd.R_drew)); exact HO_400002.out))) (Kd.R_lt (by (with_reducible repeat (first | apply Kd.R_alloc | apply Kd.R_drewN | apply Kd.R_drew)); exact HO_401002.out))) (below_size (by repeat (first | (with_reducible first | exact HB.out | apply below_alloc | apply pw_below_drewN | apply below_drew1 | refine below_set ?_ GE399.out | refine below_set ?_ GE400.out) | exact HB.out))))
                              have n4_ := Aside0.mk (blk_below (g := gb399) (o := .cells #[.bool x400000_2, .bool x400001_2, .slice Ao99 x400002_2.length co99, .int .i64 x400003_2, .bool x400004_2] 29 (0, 0)) (by (with_reducible repeat (first | refine blk_drewN ?_ _ | refine blk_drew ?_ | refine blk_alloc ?_ _)); exact BK399.out) hb)
                              have n5_ := Aside0.mk (blk_below (g := gb400) (o := .cells #[.bool x401000_2, .bool x401001_2, u401002, .int .i64 x401003_2, .bool x401004_2] 29 (0, 0)) (by (with_reducible repeat (first | refine blk_drewN ?_ _ | refine blk_drew ?_ | refine blk_alloc ?_ _)); exact BK400.out) hb)
                              have n6_ := Aside0.mk (below_step (by repeat (first | (with_reducible first | exact HB.out | apply below_alloc | apply pw_below_drewN | apply below_drew1 | refine below_set ?_ GE399.out | refine below_set ?_ GE400.out) | exact HB.out)) hb)
                              clear HO_7
                              clear HO_400002
                              clear HO_401002
                              clear BK399
                              clear BK400
                              clear HB
                              have HO_7 := n0_
                              have HO_400002 := n1_
                              have HO_401002 := n2_
                              have HO441 := n3_
                              have BK399 := n4_
                              have BK400 := n5_
                              have HB := n6_
                              clear n0_ n1_ n2_ n3_ n4_ n5_ n6_
                              (try clear hb)
                              (try clear hb2)
                              (try clear hk)
                              (try clear hi)
                              (try clear ho0)
                              obtain ⟨Ao101, co101, eo101⟩ := Kd.R_slice HO_401002.out
                              (first | subst eo101 | (injection eo101 with f1_ f2_ f3_; have f4_ := f1_.symm; have f5_ := f3_.symm; clear f1_ f2_ f3_; subst f4_; subst f5_))
                              refine hK.out _ _ ⟨(blk_cell BK399.out 0).trans rfl, (blk_cell BK399.out 1).trans rfl, (blk_cell BK399.out 2).trans rfl, (blk_cell BK399.out 3).trans rfl, (blk_cell BK399.out 4).trans rfl, (blk_cell BK400.out 0).trans rfl, (blk_cell BK400.out 1).trans rfl, (blk_cell BK400.out 2).trans rfl, (blk_cell BK400.out 3).trans rfl, (blk_cell BK400.out 4).trans rfl⟩ (fun hHeld => ?_)
                              clear hK K
                              refine norm_ (a' := ?_) ?_ ?_
                              rotate_left
                              · show Act.put _ (some 79) _ = _
                                simp only [Act.put, List.setIfInBounds_toArray, List.set_cons_zero, List.set_cons_succ, i64_w, i32_w]
                                rfl
                              refine one_ (i := 5) (N := some 82) #[true, true, true, true, true, true, false, false] rfl rfl (one_of HT_.out (by kernel_rfl)) (by decide) (fun K hK => ?_)
                              refine goes_ Try.func14 (by kernel_rfl) rfl #[.slice Ao17 t382.length co17, .agg #[.bool x401000_2, .bool x401001_2, .slice Ao101 x401002_2.length co101, .int .i64 x401003_2, .bool x401004_2], .bool false] (by rfl) rfl rfl (by (try simp only [List.map_toArray, List.map_cons, List.map_nil]); first | done | rfl | (simp only [List.length_drop, List.length_take]; rfl)) ?_
                              with_reducible refine (repriseref11_Again.calls kj29 _ _ t382 x401000_2 x401001_2 (fun k_ => some k_ = (.slice Ao101 x401002_2.length co101 : Value).ownBlock) (.slice Ao101 x401002_2.length co101) x401002_2 x401003_2 x401004_2 false t444 t445 t446 t449 t450 w _ ?side1 ?side2 ?side3 ?side4 A95.out).mono ?_
                              (case side1 => repeat (first | (with_reducible first | exact HB.out | apply below_alloc | apply pw_below_drewN | apply below_drew1 | refine below_set ?_ GE399.out | refine below_set ?_ GE400.out) | exact HB.out))
                              (case side2 => exact Kd.C_kept_ownQ ((Kd.Q_apart' HO_7.out (Kd.R_typed HO_401002.out) (by decide))) (fun k_ hk_ hs_ => (hk_.2) hs_))
                              (case side3 => exact (Kd.Q_reads' HO_7.out).2.1)
                              (case side4 => exact Kd.R_tight rfl HO_401002.out)
                              rintro e w102 ⟨v447, rfl, ho0, hb, hkp⟩
                              refine ⟨_, rfl, ?_⟩
                              have n0_ := Aside0.mk (Kd.Q_mono (ok' := fun k_ => True) (Kd.Q_keptB ((Kd.Q_apart' HO_7.out (Kd.R_typed HO_401002.out) (by decide))) hkp (fun k_ hk_ hs_ => (hk_.2) hs_)) (fun k_ hk_ => trivial))
                              have n1_ := Aside0.mk (Kd.R_mono (ok' := fun k_ => some k_ ≠ (v440 : Value).ownBlock ∧ some k_ ≠ (v447 : Value).ownBlock) (Kd.R_keptB (HO_400002.out) hkp (fun k_ hk_ hs_ => (hk_.1) hs_)) (fun k_ hk_ => ⟨hk_.1.2, fun e_ => Or.elim (ho0.1 k_ e_.symm) (fun hs_ => hk_.2.1 hs_) (fun hn_ => Nat.not_le.2 hk_.2.2 hn_)⟩))
                              have n2_ := Aside0.mk (blk_kept (by (with_reducible repeat (first | refine blk_drewN ?_ _ | refine blk_drew ?_ | refine blk_alloc ?_ _)); exact BK399.out) hkp (fun hs_ => (fun e_ => (Kd.R_ne HO_401002.out BK399.out (by decide)) e_) hs_))
                              have n3_ := Aside0.mk (blk_kept (by (with_reducible repeat (first | refine blk_drewN ?_ _ | refine blk_drew ?_ | refine blk_alloc ?_ _)); exact BK400.out) hkp (fun hs_ => (fun e_ => (Kd.R_ne HO_401002.out BK400.out (by decide)) e_) hs_))
                              have n4_ := Aside0.mk (Kd.R_mono (ok' := fun k_ => some k_ ≠ (.slice Ao99 x400002_2.length co99 : Value).ownBlock ∧ some k_ ≠ (v447 : Value).ownBlock) (Kd.R_keptB (HO441.out) hkp (fun k_ hk_ hs_ => (hk_.2) hs_)) (fun k_ hk_ => ⟨hk_.1.1.2, fun e_ => Or.elim (ho0.1 k_ e_.symm) (fun hs_ => hk_.2.1 hs_) (fun hn_ => Nat.not_le.2 hk_.2.2 hn_)⟩))
                              have n5_ := Aside0.mk (Kd.R_mono (ok' := fun k_ => some k_ ≠ (.slice Ao99 x400002_2.length co99 : Value).ownBlock ∧ some k_ ≠ (v440 : Value).ownBlock) ho0 (fun k_ hk_ => ⟨Or.elim hk_ (fun hs_ => fun e_ => (((HO_400002.out).1 k_ e_.symm).1) hs_) (fun hn_ => (Kd.fresh' (Kd.R_lt (by (with_reducible repeat (first | apply Kd.R_alloc | apply Kd.R_drewN | apply Kd.R_drew)); exact HO_400002.out)) k_ hn_)), Or.elim hk_ (fun hs_ => fun e_ => (((HO441.out).1 k_ e_.symm).2) hs_) (fun hn_ => (Kd.fresh' (Kd.R_lt (by (with_reducible repeat (first | apply Kd.R_alloc | apply Kd.R_drewN | apply Kd.R_drew)); exact HO441.out)) k_ hn_))⟩))
                              have n6_ := Aside0.mk (hb)
                              clear HO_7
                              clear HO_400002
                              clear BK399
                              clear BK400
                              clear HO441
                              clear HB
                              clear HO_401002
                              have HO_7 := n0_
                              have HO_400002 := n1_
                              have BK399 := n2_
                              have BK400 := n3_
                              have HO441 := n4_
                              have HO448 := n5_
                              have HB := n6_
                              clear n0_ n1_ n2_ n3_ n4_ n5_ n6_
                              (try clear hb)
                              (try clear hkp)
                              (try clear ho0)
                              obtain ⟨Ao105, co105, eo105⟩ := Kd.R_slice HO441.out
                              (first | subst eo105 | (injection eo105 with f1_ f2_ f3_; have f4_ := f1_.symm; have f5_ := f3_.symm; clear f1_ f2_ f3_; subst f4_; subst f5_))
                              obtain ⟨Ao111, co111, eo111⟩ := Kd.R_slice HO448.out
                              (first | subst eo111 | (injection eo111 with f1_ f2_ f3_; have f4_ := f1_.symm; have f5_ := f3_.symm; clear f1_ f2_ f3_; subst f4_; subst f5_))
                              refine hK.out _ _ ⟨(blk_cell BK399.out 0).trans rfl, (blk_cell BK399.out 1).trans rfl, (blk_cell BK399.out 2).trans rfl, (blk_cell BK399.out 3).trans rfl, (blk_cell BK399.out 4).trans rfl, (blk_cell BK400.out 0).trans rfl, (blk_cell BK400.out 1).trans rfl, (blk_cell BK400.out 2).trans rfl, (blk_cell BK400.out 3).trans rfl, (blk_cell BK400.out 4).trans rfl⟩ (fun hHeld => ?_)
                              clear hK K
                              refine norm_ (a' := ?_) ?_ ?_
                              rotate_left
                              · show Act.put _ (some 82) _ = _
                                simp only [Act.put, List.setIfInBounds_toArray, List.set_cons_zero, List.set_cons_succ, i64_w, i32_w]
                                rfl
                              refine last_ (i := 6) (N := none) #[true, true, true, true, true, true, true, false] rfl rfl (one_of HT_.out (by kernel_rfl)) (by decide) (fun K hK => ?_)
                              have hs103 : w102.cell? ⟨gb399, 0, none⟩ = some (.bool x400000_2) := (blk_cell BK399.out 0).trans rfl
                              have hfs103 := blk_frozen BK399.out 0
                              have hns103_1 := NB400_399.out
                              have hms103_1 := NB399_400.out
                              have hs104 : w102.cell? ⟨gb399, 1, none⟩ = some (.bool x400001_2) := (blk_cell BK399.out 1).trans rfl
                              have hfs104 := blk_frozen BK399.out 1
                              have hns104_1 := NB400_399.out
                              have hms104_1 := NB399_400.out
                              have hs106 : w102.cell? ⟨gb399, 2, none⟩ = some (.slice Ao99 x400002_2.length co99) := (blk_cell BK399.out 2).trans rfl
                              have hfs106 := blk_frozen BK399.out 2
                              have hns106_1 := NB400_399.out
                              have hms106_1 := NB399_400.out
                              have hs107 : w102.cell? ⟨gb399, 3, none⟩ = some (.int .i64 x400003_2) := (blk_cell BK399.out 3).trans rfl
                              have hfs107 := blk_frozen BK399.out 3
                              have hns107_1 := NB400_399.out
                              have hms107_1 := NB399_400.out
                              have hs108 : w102.cell? ⟨gb399, 4, none⟩ = some (.bool x400004_2) := (blk_cell BK399.out 4).trans rfl
                              have hfs108 := blk_frozen BK399.out 4
                              have hns108_1 := NB400_399.out
                              have hms108_1 := NB399_400.out
                              refine skip_ (w1 := ?_) (by rfl) rfl ?_ ?_
                              rotate_left
                              · go_simp
                                rfl
                              refine hK.out _ _ ?_
                              clear hK K
                              refine last_ (i := 7) (N := none) #[true, true, true, true, true, true, true, true] rfl rfl (one_of HT_.out (by kernel_rfl)) (by decide) (fun K hK => ?_)
                              have hs109 : w102.cell? ⟨gb400, 0, none⟩ = some (.bool x401000_2) := (blk_cell BK400.out 0).trans rfl
                              have hfs109 := blk_frozen BK400.out 0
                              have hns109_0 := NB399_400.out
                              have hms109_0 := NB400_399.out
                              have hs110 : w102.cell? ⟨gb400, 1, none⟩ = some (.bool x401001_2) := (blk_cell BK400.out 1).trans rfl
                              have hfs110 := blk_frozen BK400.out 1
                              have hns110_0 := NB399_400.out
                              have hms110_0 := NB400_399.out
                              have hs112 : w102.cell? ⟨gb400, 2, none⟩ = some (.slice Ao101 x401002_2.length co101) := (blk_cell BK400.out 2).trans rfl
                              have hfs112 := blk_frozen BK400.out 2
                              have hns112_0 := NB399_400.out
                              have hms112_0 := NB400_399.out
                              have hs113 : w102.cell? ⟨gb400, 3, none⟩ = some (.int .i64 x401003_2) := (blk_cell BK400.out 3).trans rfl
                              have hfs113 := blk_frozen BK400.out 3
                              have hns113_0 := NB399_400.out
                              have hms113_0 := NB400_399.out
                              have hs114 : w102.cell? ⟨gb400, 4, none⟩ = some (.bool x401004_2) := (blk_cell BK400.out 4).trans rfl
                              have hfs114 := blk_frozen BK400.out 4
                              have hns114_0 := NB399_400.out
                              have hms114_0 := NB400_399.out
                              refine skip_ (w1 := ?_) (by rfl) rfl ?_ ?_
                              rotate_left
                              · go_simp
                                rfl
                              refine hK.out _ _ ?_
                              clear hK K
                              refine done_ (done_of HT_.out (by kernel_rfl)) ?_
                              have hnb115 := NB399_400.out
                              have hnc115 := NB400_399.out
                              have hcz116_0 : w102.cell? ⟨gb399, 0, none⟩ = some (.bool x400000_2) := (blk_cell BK399.out 0).trans rfl
                              have hcz116_1 : w102.cell? ⟨gb399, 1, none⟩ = some (.bool x400001_2) := (blk_cell BK399.out 1).trans rfl
                              have hcz116_2 : w102.cell? ⟨gb399, 2, none⟩ = some (.slice Ao99 x400002_2.length co99) := (blk_cell BK399.out 2).trans rfl
                              have hcz116_3 : w102.cell? ⟨gb399, 3, none⟩ = some (.int .i64 x400003_2) := (blk_cell BK399.out 3).trans rfl
                              have hcz116_4 : w102.cell? ⟨gb399, 4, none⟩ = some (.bool x400004_2) := (blk_cell BK399.out 4).trans rfl
                              have hfz116_0 := blk_frozen BK399.out 0
                              have hfz116_1 := blk_frozen BK399.out 1
                              have hfz116_2 := blk_frozen BK399.out 2
                              have hfz116_3 := blk_frozen BK399.out 3
                              have hfz116_4 := blk_frozen BK399.out 4
                              have hcz117_0 : w102.cell? ⟨gb400, 0, none⟩ = some (.bool x401000_2) := (blk_cell BK400.out 0).trans rfl
                              have hcz117_1 : w102.cell? ⟨gb400, 1, none⟩ = some (.bool x401001_2) := (blk_cell BK400.out 1).trans rfl
                              have hcz117_2 : w102.cell? ⟨gb400, 2, none⟩ = some (.slice Ao101 x401002_2.length co101) := (blk_cell BK400.out 2).trans rfl
                              have hcz117_3 : w102.cell? ⟨gb400, 3, none⟩ = some (.int .i64 x401003_2) := (blk_cell BK400.out 3).trans rfl
                              have hcz117_4 : w102.cell? ⟨gb400, 4, none⟩ = some (.bool x401004_2) := (blk_cell BK400.out 4).trans rfl
                              have hfz117_0 := blk_frozen BK400.out 0
                              have hfz117_1 := blk_frozen BK400.out 1
                              have hfz117_2 := blk_frozen BK400.out 2
                              have hfz117_3 := blk_frozen BK400.out 3
                              have hfz117_4 := blk_frozen BK400.out 4
                              try go_wp2_with (first | ((with_reducible refine gate_callee (f := 17) rfl ?_); refine goesL_ (some 85) rfl rfl Try.func17 (by kernel_rfl) rfl #[.agg #[.bool t437, .bool t438, .slice Ao105 t439.length co105, .int .i64 t442, .bool t443], .agg #[.bool t444, .bool t445, .slice Ao111 t446.length co111, .int .i64 t449, .bool t450]] rfl (by (try simp only [List.map_toArray, List.map_cons, List.map_nil]); first | done | rfl | (simp only [List.length_drop, List.length_take]; rfl)) ?_; (with_reducible refine (reprisehelp_Search.calls kj29 t437 t438 _ _ t439 t442 t443 t444 t445 _ _ t446 t449 t450 true _ ?side1 ?side2 ?side3 ?side4 A96.out).mono ?_); (case side1 => refine (Kd.R_reads' (e := 21) (base := w.heap.size) (ok := fun k_ => (some k_ ≠ (.slice Ao99 x400002_2.length co99 : Value).ownBlock ∧ some k_ ≠ (.slice Ao111 t446.length co111 : Value).ownBlock)) (n := t439.length) (c := co105) ?_).2.2; exact (by (with_reducible repeat (first | apply Kd.R_alloc | apply Kd.R_drewN | apply Kd.R_drew)); exact (Kd.R_mono (Kd.R_mono (Kd.R_far (p := ⟨gb400, 4, none⟩) (Kd.R_far (p := ⟨gb400, 3, none⟩) (Kd.R_far (p := ⟨gb400, 2, none⟩) (Kd.R_far (p := ⟨gb400, 1, none⟩) (Kd.R_far (p := ⟨gb400, 0, none⟩) (Kd.R_far (p := ⟨gb399, 4, none⟩) (Kd.R_far (p := ⟨gb399, 3, none⟩) (Kd.R_far (p := ⟨gb399, 2, none⟩) (Kd.R_far (p := ⟨gb399, 1, none⟩) (Kd.R_far (p := ⟨gb399, 0, none⟩) (Kd.R_types (Kd.R_types HO441.out BK399.out (by decide)) BK400.out (by decide)) (fun _ hk => hk.1.2) (.bool t437)) (fun _ hk => hk.1.2) (.bool t438)) (fun _ hk => hk.1.2) (.slice Ao105 t439.length co105)) (fun _ hk => hk.1.2) (.int .i64 t442)) (fun _ hk => hk.1.2) (.bool t443)) (fun _ hk => hk.2) (.bool t444)) (fun _ hk => hk.2) (.bool t445)) (fun _ hk => hk.2) (.slice Ao111 t446.length co111)) (fun _ hk => hk.2) (.int .i64 t449)) (fun _ hk => hk.2) (.bool t450)) (fun _ h_ => h_.1)) (fun _ h_ => h_.1)))); (case side2 => exact (Kd.R_reads' HO441.out).2.1); (case side3 => refine (Kd.R_reads' (e := 21) (base := w.heap.size) (ok := fun k_ => (some k_ ≠ (.slice Ao99 x400002_2.length co99 : Value).ownBlock ∧ some k_ ≠ (.slice Ao105 t439.length co105 : Value).ownBlock)) (n := t446.length) (c := co111) ?_).2.2; exact (by (with_reducible repeat (first | apply Kd.R_alloc | apply Kd.R_drewN | apply Kd.R_drew)); exact (Kd.R_mono (Kd.R_mono (Kd.R_far (p := ⟨gb400, 4, none⟩) (Kd.R_far (p := ⟨gb400, 3, none⟩) (Kd.R_far (p := ⟨gb400, 2, none⟩) (Kd.R_far (p := ⟨gb400, 1, none⟩) (Kd.R_far (p := ⟨gb400, 0, none⟩) (Kd.R_far (p := ⟨gb399, 4, none⟩) (Kd.R_far (p := ⟨gb399, 3, none⟩) (Kd.R_far (p := ⟨gb399, 2, none⟩) (Kd.R_far (p := ⟨gb399, 1, none⟩) (Kd.R_far (p := ⟨gb399, 0, none⟩) (Kd.R_types (Kd.R_types HO448.out BK399.out (by decide)) BK400.out (by decide)) (fun _ hk => hk.1.2) (.bool t437)) (fun _ hk => hk.1.2) (.bool t438)) (fun _ hk => hk.1.2) (.slice Ao105 t439.length co105)) (fun _ hk => hk.1.2) (.int .i64 t442)) (fun _ hk => hk.1.2) (.bool t443)) (fun _ hk => hk.2) (.bool t444)) (fun _ hk => hk.2) (.bool t445)) (fun _ hk => hk.2) (.slice Ao111 t446.length co111)) (fun _ hk => hk.2) (.int .i64 t449)) (fun _ hk => hk.2) (.bool t450)) (fun _ h_ => h_.1)) (fun _ h_ => h_.1)))); (case side4 => exact (Kd.R_reads' HO448.out).2.1); rintro e w118 ⟨rfl, hb⟩; refine ⟨_, rfl, ?_⟩; have n0_ := Aside0.mk (Kd.Q_below (by (with_reducible repeat (first | apply Kd.Q_alloc | apply Kd.Q_drewN | apply Kd.Q_drew)); exact (Kd.Q_mono (Kd.Q_mono (Kd.Q_far (p := ⟨gb400, 4, none⟩) (Kd.Q_far (p := ⟨gb400, 3, none⟩) (Kd.Q_far (p := ⟨gb400, 2, none⟩) (Kd.Q_far (p := ⟨gb400, 1, none⟩) (Kd.Q_far (p := ⟨gb400, 0, none⟩) (Kd.Q_far (p := ⟨gb399, 4, none⟩) (Kd.Q_far (p := ⟨gb399, 3, none⟩) (Kd.Q_far (p := ⟨gb399, 2, none⟩) (Kd.Q_far (p := ⟨gb399, 1, none⟩) (Kd.Q_far (p := ⟨gb399, 0, none⟩) (Kd.Q_types (Kd.Q_types HO_7.out BK399.out (by decide)) BK400.out (by decide)) (fun _ hk => hk.1.2) (.bool t437)) (fun _ hk => hk.1.2) (.bool t438)) (fun _ hk => hk.1.2) (.slice Ao105 t439.length co105)) (fun _ hk => hk.1.2) (.int .i64 t442)) (fun _ hk => hk.1.2) (.bool t443)) (fun _ hk => hk.2) (.bool t444)) (fun _ hk => hk.2) (.bool t445)) (fun _ hk => hk.2) (.slice Ao111 t446.length co111)) (fun _ hk => hk.2) (.int .i64 t449)) (fun _ hk => hk.2) (.bool t450)) (fun _ h_ => h_.1)) (fun _ h_ => h_.1))) hb); have n1_ := Aside0.mk (Kd.R_below (by (with_reducible repeat (first | apply Kd.R_alloc | apply Kd.R_drewN | apply Kd.R_drew)); exact (Kd.R_mono (Kd.R_mono (Kd.R_far (p := ⟨gb400, 4, none⟩) (Kd.R_far (p := ⟨gb400, 3, none⟩) (Kd.R_far (p := ⟨gb400, 2, none⟩) (Kd.R_far (p := ⟨gb400, 1, none⟩) (Kd.R_far (p := ⟨gb400, 0, none⟩) (Kd.R_far (p := ⟨gb399, 4, none⟩) (Kd.R_far (p := ⟨gb399, 3, none⟩) (Kd.R_far (p := ⟨gb399, 2, none⟩) (Kd.R_far (p := ⟨gb399, 1, none⟩) (Kd.R_far (p := ⟨gb399, 0, none⟩) (Kd.R_types (Kd.R_types HO_400002.out BK399.out (by decide)) BK400.out (by decide)) (fun _ hk => hk.1.2) (.bool t437)) (fun _ hk => hk.1.2) (.bool t438)) (fun _ hk => hk.1.2) (.slice Ao105 t439.length co105)) (fun _ hk => hk.1.2) (.int .i64 t442)) (fun _ hk => hk.1.2) (.bool t443)) (fun _ hk => hk.2) (.bool t444)) (fun _ hk => hk.2) (.bool t445)) (fun _ hk => hk.2) (.slice Ao111 t446.length co111)) (fun _ hk => hk.2) (.int .i64 t449)) (fun _ hk => hk.2) (.bool t450)) (fun _ h_ => h_.1)) (fun _ h_ => h_.1))) hb); have n2_ := Aside0.mk (Kd.R_below (by (with_reducible repeat (first | apply Kd.R_alloc | apply Kd.R_drewN | apply Kd.R_drew)); exact (Kd.R_mono (Kd.R_mono (Kd.R_far (p := ⟨gb400, 4, none⟩) (Kd.R_far (p := ⟨gb400, 3, none⟩) (Kd.R_far (p := ⟨gb400, 2, none⟩) (Kd.R_far (p := ⟨gb400, 1, none⟩) (Kd.R_far (p := ⟨gb400, 0, none⟩) (Kd.R_far (p := ⟨gb399, 4, none⟩) (Kd.R_far (p := ⟨gb399, 3, none⟩) (Kd.R_far (p := ⟨gb399, 2, none⟩) (Kd.R_far (p := ⟨gb399, 1, none⟩) (Kd.R_far (p := ⟨gb399, 0, none⟩) (Kd.R_types (Kd.R_types HO441.out BK399.out (by decide)) BK400.out (by decide)) (fun _ hk => hk.1.2) (.bool t437)) (fun _ hk => hk.1.2) (.bool t438)) (fun _ hk => hk.1.2) (.slice Ao105 t439.length co105)) (fun _ hk => hk.1.2) (.int .i64 t442)) (fun _ hk => hk.1.2) (.bool t443)) (fun _ hk => hk.2) (.bool t444)) (fun _ hk => hk.2) (.bool t445)) (fun _ hk => hk.2) (.slice Ao111 t446.length co111)) (fun _ hk => hk.2) (.int .i64 t449)) (fun _ hk => hk.2) (.bool t450)) (fun _ h_ => h_.1)) (fun _ h_ => h_.1))) hb); have n3_ := Aside0.mk (Kd.R_below (by (with_reducible repeat (first | apply Kd.R_alloc | apply Kd.R_drewN | apply Kd.R_drew)); exact (Kd.R_mono (Kd.R_mono (Kd.R_far (p := ⟨gb400, 4, none⟩) (Kd.R_far (p := ⟨gb400, 3, none⟩) (Kd.R_far (p := ⟨gb400, 2, none⟩) (Kd.R_far (p := ⟨gb400, 1, none⟩) (Kd.R_far (p := ⟨gb400, 0, none⟩) (Kd.R_far (p := ⟨gb399, 4, none⟩) (Kd.R_far (p := ⟨gb399, 3, none⟩) (Kd.R_far (p := ⟨gb399, 2, none⟩) (Kd.R_far (p := ⟨gb399, 1, none⟩) (Kd.R_far (p := ⟨gb399, 0, none⟩) (Kd.R_types (Kd.R_types HO448.out BK399.out (by decide)) BK400.out (by decide)) (fun _ hk => hk.1.2) (.bool t437)) (fun _ hk => hk.1.2) (.bool t438)) (fun _ hk => hk.1.2) (.slice Ao105 t439.length co105)) (fun _ hk => hk.1.2) (.int .i64 t442)) (fun _ hk => hk.1.2) (.bool t443)) (fun _ hk => hk.2) (.bool t444)) (fun _ hk => hk.2) (.bool t445)) (fun _ hk => hk.2) (.slice Ao111 t446.length co111)) (fun _ hk => hk.2) (.int .i64 t449)) (fun _ hk => hk.2) (.bool t450)) (fun _ h_ => h_.1)) (fun _ h_ => h_.1))) hb); have n4_ := Aside0.mk (blk_below (g := gb399) (o := .cells #[.bool t437, .bool t438, .slice Ao105 t439.length co105, .int .i64 t442, .bool t443] 29 (0, 0)) (by (with_reducible repeat (first | refine blk_drewN ?_ _ | refine blk_drew ?_ | refine blk_alloc ?_ _)); refine blk_far ?_ NB399_400.out _; (with_reducible repeat (first | refine blk_drewN ?_ _ | refine blk_drew ?_ | refine blk_alloc ?_ _)); refine blk_far ?_ NB399_400.out _; (with_reducible repeat (first | refine blk_drewN ?_ _ | refine blk_drew ?_ | refine blk_alloc ?_ _)); refine blk_far ?_ NB399_400.out _; (with_reducible repeat (first | refine blk_drewN ?_ _ | refine blk_drew ?_ | refine blk_alloc ?_ _)); refine blk_far ?_ NB399_400.out _; (with_reducible repeat (first | refine blk_drewN ?_ _ | refine blk_drew ?_ | refine blk_alloc ?_ _)); refine blk_far ?_ NB399_400.out _; (with_reducible repeat (first | refine blk_drewN ?_ _ | refine blk_drew ?_ | refine blk_alloc ?_ _)); refine blk_put (cs := #[.bool t437, .bool t438, .slice Ao105 t439.length co105, .int .i64 t442, .bool x400004_2]) ?_ 4 _ rfl; (with_reducible repeat (first | refine blk_drewN ?_ _ | refine blk_drew ?_ | refine blk_alloc ?_ _)); refine blk_put (cs := #[.bool t437, .bool t438, .slice Ao105 t439.length co105, .int .i64 x400003_2, .bool x400004_2]) ?_ 3 _ rfl; (with_reducible repeat (first | refine blk_drewN ?_ _ | refine blk_drew ?_ | refine blk_alloc ?_ _)); refine blk_put (cs := #[.bool t437, .bool t438, .slice Ao99 x400002_2.length co99, .int .i64 x400003_2, .bool x400004_2]) ?_ 2 _ rfl; (with_reducible repeat (first | refine blk_drewN ?_ _ | refine blk_drew ?_ | refine blk_alloc ?_ _)); refine blk_put (cs := #[.bool t437, .bool x400001_2, .slice Ao99 x400002_2.length co99, .int .i64 x400003_2, .bool x400004_2]) ?_ 1 _ rfl; (with_reducible repeat (first | refine blk_drewN ?_ _ | refine blk_drew ?_ | refine blk_alloc ?_ _)); refine blk_put (cs := #[.bool x400000_2, .bool x400001_2, .slice Ao99 x400002_2.length co99, .int .i64 x400003_2, .bool x400004_2]) ?_ 0 _ rfl; (with_reducible repeat (first | refine blk_drewN ?_ _ | refine blk_drew ?_ | refine blk_alloc ?_ _)); exact BK399.out) hb); have n5_ := Aside0.mk (blk_below (g := gb400) (o := .cells #[.bool t444, .bool t445, .slice Ao111 t446.length co111, .int .i64 t449, .bool t450] 29 (0, 0)) (by (with_reducible repeat (first | refine blk_drewN ?_ _ | refine blk_drew ?_ | refine blk_alloc ?_ _)); refine blk_put (cs := #[.bool t444, .bool t445, .slice Ao111 t446.length co111, .int .i64 t449, .bool x401004_2]) ?_ 4 _ rfl; (with_reducible repeat (first | refine blk_drewN ?_ _ | refine blk_drew ?_ | refine blk_alloc ?_ _)); refine blk_put (cs := #[.bool t444, .bool t445, .slice Ao111 t446.length co111, .int .i64 x401003_2, .bool x401004_2]) ?_ 3 _ rfl; (with_reducible repeat (first | refine blk_drewN ?_ _ | refine blk_drew ?_ | refine blk_alloc ?_ _)); refine blk_put (cs := #[.bool t444, .bool t445, .slice Ao101 x401002_2.length co101, .int .i64 x401003_2, .bool x401004_2]) ?_ 2 _ rfl; (with_reducible repeat (first | refine blk_drewN ?_ _ | refine blk_drew ?_ | refine blk_alloc ?_ _)); refine blk_put (cs := #[.bool t444, .bool x401001_2, .slice Ao101 x401002_2.length co101, .int .i64 x401003_2, .bool x401004_2]) ?_ 1 _ rfl; (with_reducible repeat (first | refine blk_drewN ?_ _ | refine blk_drew ?_ | refine blk_alloc ?_ _)); refine blk_put (cs := #[.bool x401000_2, .bool x401001_2, .slice Ao101 x401002_2.length co101, .int .i64 x401003_2, .bool x401004_2]) ?_ 0 _ rfl; (with_reducible repeat (first | refine blk_drewN ?_ _ | refine blk_drew ?_ | refine blk_alloc ?_ _)); refine blk_far ?_ NB400_399.out _; (with_reducible repeat (first | refine blk_drewN ?_ _ | refine blk_drew ?_ | refine blk_alloc ?_ _)); refine blk_far ?_ NB400_399.out _; (with_reducible repeat (first | refine blk_drewN ?_ _ | refine blk_drew ?_ | refine blk_alloc ?_ _)); refine blk_far ?_ NB400_399.out _; (with_reducible repeat (first | refine blk_drewN ?_ _ | refine blk_drew ?_ | refine blk_alloc ?_ _)); refine blk_far ?_ NB400_399.out _; (with_reducible repeat (first | refine blk_drewN ?_ _ | refine blk_drew ?_ | refine blk_alloc ?_ _)); refine blk_far ?_ NB400_399.out _; (with_reducible repeat (first | refine blk_drewN ?_ _ | refine blk_drew ?_ | refine blk_alloc ?_ _)); exact BK400.out) hb); have n6_ := Aside0.mk (below_step (by repeat (first | (with_reducible first | exact HB.out | apply below_alloc | apply pw_below_drewN | apply below_drew1 | refine below_set ?_ GE399.out | refine below_set ?_ GE400.out) | exact HB.out)) hb); clear HO_7; clear HO_400002; clear HO441; clear HO448; clear BK399; clear BK400; clear HB; have HO_7 := n0_; have HO_400002 := n1_; have HO441 := n2_; have HO448 := n3_; have BK399 := n4_; have BK400 := n5_; have HB := n6_; clear n0_ n1_ n2_ n3_ n4_ n5_ n6_; (try clear hb); (try clear hb2); (try clear hk); (try clear hi)))
                              go_roundg kj29
                              case measure => have := HJ5.out; have := HK2.out; have := HJ29.out; omega
                              case rel => exact ⟨(wrap64 (x10_2 + 1)), (t437), (t438), (t439), (t442), (t443), (t444), (t445), (t446), (t449), (t450), (.slice Ao105 t439.length co105), (.slice Ao111 t446.length co111), (by first | rfl | (simp; done) | (simp [*]; done)), H', ⟨by have := HJ5.out; have := HK2.out; have := HJ29.out; omega⟩, ⟨by (with_reducible repeat (first | apply Kd.Q_alloc | apply Kd.Q_drewN | apply Kd.Q_drew)); exact HO_7.out⟩, ⟨by (with_reducible repeat (first | apply Kd.R_alloc | apply Kd.R_drewN | apply Kd.R_drew)); exact Kd.R_mono HO441.out (fun _ hk => hk.2)⟩, ⟨by (with_reducible repeat (first | apply Kd.R_alloc | apply Kd.R_drewN | apply Kd.R_drew)); exact Kd.R_mono HO448.out (fun _ hk => hk.2)⟩, ⟨by (with_reducible repeat (first | refine blk_drewN ?_ _ | refine blk_drew ?_ | refine blk_alloc ?_ _)); exact BK399.out⟩, ⟨by (with_reducible repeat (first | refine blk_drewN ?_ _ | refine blk_drew ?_ | refine blk_alloc ?_ _)); exact BK400.out⟩, ⟨by repeat (first | (with_reducible first | exact HB.out | apply below_alloc | apply pw_below_drewN | apply below_drew1 | refine below_set ?_ GE399.out | refine below_set ?_ GE400.out) | exact HB.out)⟩⟩
                            · replace c97 := Bool.eq_false_iff.mpr c97
                              subst c97
                              have H1 : (none) = some r := by rw [if_neg (show ¬ (false = true) by decide)] at H; exact H
                              clear H
                              have H := H1
                              clear H1
                              exact absurd H (by simp)
                          · rw [if_neg c93] at H
                            have c93b0 : ((Int.tmod (rd l1 x10_2) 6) == 4) = false := beq_eq_false_iff_ne.mpr c93
                            have c93b1 : ((Int.tmod (rd l1 x10_2) 6) != 4) = true := bne_iff_ne.mpr c93
                            replace H := Option.bind_eq_some_iff.mp H
                            obtain ⟨⟨t452, t453, t454, t457, t458⟩, A1190, H⟩ := H
                            replace H : ((repriseref11_Rub.f x401000_2 x401001_2 x401002_2 x401003_2 x401004_2).bind fun bt459 => ((reprisehelp_Search.f kj29 t452 t453 t454 t457 t458 bt459.1 bt459.2.1 bt459.2.2.1 bt459.2.2.2.1 bt459.2.2.2.2).bind fun t466 => (if t466 = true then (repriselaw16_SearchPlays.l0 kj29 l1 t382 (wrap64 (x10_2 + 1)) t452 t453 t454 t457 t458 bt459.1 bt459.2.1 bt459.2.2.1 bt459.2.2.2.1 bt459.2.2.2.2) else (none)))) = some r := H
                            have A119 := Aside0.mk A1190
                            clear A1190
                            replace H := Option.bind_eq_some_iff.mp H
                            obtain ⟨⟨t459, t460, t461, t464, t465⟩, A1200, H⟩ := H
                            replace H : ((reprisehelp_Search.f kj29 t452 t453 t454 t457 t458 t459 t460 t461 t464 t465).bind fun t466 => (if t466 = true then (repriselaw16_SearchPlays.l0 kj29 l1 t382 (wrap64 (x10_2 + 1)) t452 t453 t454 t457 t458 t459 t460 t461 t464 t465) else (none))) = some r := H
                            have A120 := Aside0.mk A1200
                            clear A1200
                            replace H := Option.bind_eq_some_iff.mp H
                            obtain ⟨t466, A1210, H⟩ := H
                            replace H : (if t466 = true then (repriselaw16_SearchPlays.l0 kj29 l1 t382 (wrap64 (x10_2 + 1)) t452 t453 t454 t457 t458 t459 t460 t461 t464 t465) else (none)) = some r := H
                            have A121 := Aside0.mk A1210
                            clear A1210
                            by_cases c122 : t466 = true
                            · subst c122
                              have H1 : (repriselaw16_SearchPlays.l0 kj29 l1 t382 (wrap64 (x10_2 + 1)) t452 t453 t454 t457 t458 t459 t460 t461 t464 t465) = some r := by rw [if_pos rfl] at H; exact H
                              clear H
                              have H := H1
                              clear H1
                              have H' := Aside0.mk H
                              clear H
                              try go_wp2
                              have n0_ := Aside0.mk (Kd.Q_drew HO_7.out)
                              have n1_ := Aside0.mk (Kd.R_drew HO_400002.out)
                              have n2_ := Aside0.mk (Kd.R_drew HO_401002.out)
                              have n3_ := Aside0.mk (blk_drew BK399.out)
                              have n4_ := Aside0.mk (blk_drew BK400.out)
                              have n5_ := Aside0.mk (below_drew1 HB.out)
                              clear HO_7
                              clear HO_400002
                              clear HO_401002
                              clear BK399
                              clear BK400
                              clear HB
                              have HO_7 := n0_
                              have HO_400002 := n1_
                              have HO_401002 := n2_
                              have BK399 := n3_
                              have BK400 := n4_
                              have HB := n5_
                              clear n0_ n1_ n2_ n3_ n4_ n5_
                              obtain ⟨Ao124, co124, eo124⟩ := Kd.R_slice HO_400002.out
                              (first | subst eo124 | (injection eo124 with f1_ f2_ f3_; have f4_ := f1_.symm; have f5_ := f3_.symm; clear f1_ f2_ f3_; subst f4_; subst f5_))
                              refine start_ (n := 6) (S := fun w' => w'.cell? ⟨gb399, 0, none⟩ = some (.bool x400000_2) ∧ w'.cell? ⟨gb399, 1, none⟩ = some (.bool x400001_2) ∧ w'.cell? ⟨gb399, 2, none⟩ = some (.slice Ao124 x400002_2.length co124) ∧ w'.cell? ⟨gb399, 3, none⟩ = some (.int .i64 x400003_2) ∧ w'.cell? ⟨gb399, 4, none⟩ = some (.bool x400004_2) ∧ w'.cell? ⟨gb400, 0, none⟩ = some (.bool x401000_2) ∧ w'.cell? ⟨gb400, 1, none⟩ = some (.bool x401001_2) ∧ w'.cell? ⟨gb400, 2, none⟩ = some (u401002) ∧ w'.cell? ⟨gb400, 3, none⟩ = some (.int .i64 x401003_2) ∧ w'.cell? ⟨gb400, 4, none⟩ = some (.bool x401004_2)) (ds := [4, 5]) #[false, false, false, false, false, false] (by kernel_rfl) rfl rfl ⟨(blk_cell BK399.out 0).trans rfl, (blk_cell BK399.out 1).trans rfl, (blk_cell BK399.out 2).trans rfl, (blk_cell BK399.out 3).trans rfl, (blk_cell BK399.out 4).trans rfl, (blk_cell BK400.out 0).trans rfl, (blk_cell BK400.out 1).trans rfl, (blk_cell BK400.out 2).trans rfl, (blk_cell BK400.out 3).trans rfl, (blk_cell BK400.out 4).trans rfl⟩ (fun hHeld => ?_)
                              generalize wc.drew = w123 at HO_7 HO_400002 HO_401002 BK399 BK400 HB hHeld ⊢
                              refine take_ (i := 0) (N := some 42) (v := ?_) (a' := ?_) #[true, false, false, false, false, false] rfl rfl (by kernel_rfl) (fun _ _ _ h => h) (Or.inl ⟨by rfl, ?_⟩) hHeld ?_ ?_
                              rotate_left
                              · rintro w' ⟨s0, s1, s2, s3, s4, s5, s6, s7, s8, s9⟩
                                go_simp
                                with_reducible rfl
                              rotate_left
                              · simp only [Act.put, List.setIfInBounds_toArray, List.set_cons_zero, List.set_cons_succ, i64_w, i32_w]
                                rfl
                              refine take_ (i := 2) (N := some 44) (v := ?_) (a' := ?_) #[true, false, true, false, false, false] rfl rfl (by kernel_rfl) (fun _ _ _ h => h) (Or.inl ⟨by rfl, ?_⟩) hHeld ?_ ?_
                              rotate_left
                              · rintro w' ⟨s0, s1, s2, s3, s4, s5, s6, s7, s8, s9⟩
                                go_simp
                                with_reducible rfl
                              rotate_left
                              · simp only [Act.put, List.setIfInBounds_toArray, List.set_cons_zero, List.set_cons_succ, i64_w, i32_w]
                                rfl
                              refine one_ (i := 1) (N := some 43) #[true, true, true, false, false, false] rfl rfl (by kernel_rfl) (by decide) (fun K hK => ?_)
                              refine goes_ Try.func15 (by kernel_rfl) rfl #[.agg #[.bool x400000_2, .bool x400001_2, .slice Ao124 x400002_2.length co124, .int .i64 x400003_2, .bool x400004_2]] (by rfl) rfl rfl (by (try simp only [List.map_toArray, List.map_cons, List.map_nil]); first | done | rfl | (simp only [List.length_drop, List.length_take]; rfl)) ?_
                              with_reducible refine (search_Rub.calls x400000_2 x400001_2 _ _ x400002_2 x400003_2 x400004_2 t452 t453 t454 t457 t458 _ ?side1 ?side2 A119.out).mono ?_
                              (case side1 => repeat (first | exact (Kd.R_reads' HO_400002.out).2.2 | (with_reducible refine Kd.C_alloc ?_ _) | (with_reducible refine Kd.C_drewN ?_ _) | (with_reducible refine Kd.C_drew ?_)))
                              (case side2 => exact (Kd.R_reads' HO_400002.out).2.1)
                              rintro e w125 ⟨v455, rfl, ho0, hb⟩
                              refine ⟨_, rfl, ?_⟩
                              have n0_ := Aside0.mk (Kd.Q_below (by (with_reducible repeat (first | apply Kd.Q_alloc | apply Kd.Q_drewN | apply Kd.Q_drew)); exact HO_7.out) hb)
                              have n1_ := Aside0.mk (Kd.R_elder' (by (with_reducible repeat (first | apply Kd.R_alloc | apply Kd.R_drewN | apply Kd.R_drew)); exact HO_400002.out) (Kd.R_base ho0) hb)
                              have n2_ := Aside0.mk (Kd.R_elder' (by (with_reducible repeat (first | apply Kd.R_alloc | apply Kd.R_drewN | apply Kd.R_drew)); exact HO_401002.out) (Kd.R_base ho0) hb)
                              have n3_ := Aside0.mk (Kd.R_lower (Kd.R_new' (Kd.R_new' ho0 (Kd.R_lt (by (with_reducible repeat (first | apply Kd.R_alloc | apply Kd.R_drewN | apply Kd.R_drew)); exact HO_400002.out))) (Kd.R_lt (by (with_reducible repeat (first | apply Kd.R_alloc | apply Kd.R_drewN | apply Kd.R_drew)); exact HO_401002.out))) (below_size (by repeat (first | (with_reducible first | exact HB.out | apply below_alloc | apply pw_below_drewN | apply below_drew1 | refine below_set ?_ GE399.out | refine below_set ?_ GE400.out) | exact HB.out))))
                              have n4_ := Aside0.mk (blk_below (g := gb399) (o := .cells #[.bool x400000_2, .bool x400001_2, .slice Ao124 x400002_2.length co124, .int .i64 x400003_2, .bool x400004_2] 29 (0, 0)) (by (with_reducible repeat (first | refine blk_drewN ?_ _ | refine blk_drew ?_ | refine blk_alloc ?_ _)); exact BK399.out) hb)
                              have n5_ := Aside0.mk (blk_below (g := gb400) (o := .cells #[.bool x401000_2, .bool x401001_2, u401002, .int .i64 x401003_2, .bool x401004_2] 29 (0, 0)) (by (with_reducible repeat (first | refine blk_drewN ?_ _ | refine blk_drew ?_ | refine blk_alloc ?_ _)); exact BK400.out) hb)
                              have n6_ := Aside0.mk (below_step (by repeat (first | (with_reducible first | exact HB.out | apply below_alloc | apply pw_below_drewN | apply below_drew1 | refine below_set ?_ GE399.out | refine below_set ?_ GE400.out) | exact HB.out)) hb)
                              clear HO_7
                              clear HO_400002
                              clear HO_401002
                              clear BK399
                              clear BK400
                              clear HB
                              have HO_7 := n0_
                              have HO_400002 := n1_
                              have HO_401002 := n2_
                              have HO456 := n3_
                              have BK399 := n4_
                              have BK400 := n5_
                              have HB := n6_
                              clear n0_ n1_ n2_ n3_ n4_ n5_ n6_
                              (try clear hb)
                              (try clear hb2)
                              (try clear hk)
                              (try clear hi)
                              (try clear ho0)
                              obtain ⟨Ao126, co126, eo126⟩ := Kd.R_slice HO_401002.out
                              (first | subst eo126 | (injection eo126 with f1_ f2_ f3_; have f4_ := f1_.symm; have f5_ := f3_.symm; clear f1_ f2_ f3_; subst f4_; subst f5_))
                              refine hK.out _ _ ⟨(blk_cell BK399.out 0).trans rfl, (blk_cell BK399.out 1).trans rfl, (blk_cell BK399.out 2).trans rfl, (blk_cell BK399.out 3).trans rfl, (blk_cell BK399.out 4).trans rfl, (blk_cell BK400.out 0).trans rfl, (blk_cell BK400.out 1).trans rfl, (blk_cell BK400.out 2).trans rfl, (blk_cell BK400.out 3).trans rfl, (blk_cell BK400.out 4).trans rfl⟩ (fun hHeld => ?_)
                              clear hK K
                              refine norm_ (a' := ?_) ?_ ?_
                              rotate_left
                              · show Act.put _ (some 43) _ = _
                                simp only [Act.put, List.setIfInBounds_toArray, List.set_cons_zero, List.set_cons_succ, i64_w, i32_w]
                                rfl
                              refine one_ (i := 3) (N := some 45) #[true, true, true, true, false, false] rfl rfl (by kernel_rfl) (by decide) (fun K hK => ?_)
                              refine goes_ Try.func16 (by kernel_rfl) rfl #[.agg #[.bool x401000_2, .bool x401001_2, .slice Ao126 x401002_2.length co126, .int .i64 x401003_2, .bool x401004_2]] (by rfl) rfl rfl (by (try simp only [List.map_toArray, List.map_cons, List.map_nil]); first | done | rfl | (simp only [List.length_drop, List.length_take]; rfl)) ?_
                              with_reducible refine (repriseref11_Rub.calls x401000_2 x401001_2 _ _ x401002_2 x401003_2 x401004_2 t459 t460 t461 t464 t465 _ ?side1 ?side2 A120.out).mono ?_
                              (case side1 => repeat (first | exact (Kd.R_reads' HO_401002.out).2.2 | (with_reducible refine Kd.C_alloc ?_ _) | (with_reducible refine Kd.C_drewN ?_ _) | (with_reducible refine Kd.C_drew ?_)))
                              (case side2 => exact (Kd.R_reads' HO_401002.out).2.1)
                              rintro e w127 ⟨v462, rfl, ho0, hb⟩
                              refine ⟨_, rfl, ?_⟩
                              have n0_ := Aside0.mk (Kd.Q_below (by (with_reducible repeat (first | apply Kd.Q_alloc | apply Kd.Q_drewN | apply Kd.Q_drew)); exact HO_7.out) hb)
                              have n1_ := Aside0.mk (Kd.R_elder' (by (with_reducible repeat (first | apply Kd.R_alloc | apply Kd.R_drewN | apply Kd.R_drew)); exact HO_400002.out) (Kd.R_base ho0) hb)
                              have n2_ := Aside0.mk (Kd.R_elder' (by (with_reducible repeat (first | apply Kd.R_alloc | apply Kd.R_drewN | apply Kd.R_drew)); exact HO_401002.out) (Kd.R_base ho0) hb)
                              have n3_ := Aside0.mk (Kd.R_elder' (by (with_reducible repeat (first | apply Kd.R_alloc | apply Kd.R_drewN | apply Kd.R_drew)); exact HO456.out) (Kd.R_base ho0) hb)
                              have n4_ := Aside0.mk (Kd.R_lower (Kd.R_new' (Kd.R_new' (Kd.R_new' ho0 (Kd.R_lt (by (with_reducible repeat (first | apply Kd.R_alloc | apply Kd.R_drewN | apply Kd.R_drew)); exact HO_400002.out))) (Kd.R_lt (by (with_reducible repeat (first | apply Kd.R_alloc | apply Kd.R_drewN | apply Kd.R_drew)); exact HO_401002.out))) (Kd.R_lt (by (with_reducible repeat (first | apply Kd.R_alloc | apply Kd.R_drewN | apply Kd.R_drew)); exact HO456.out))) (below_size (by repeat (first | (with_reducible first | exact HB.out | apply below_alloc | apply pw_below_drewN | apply below_drew1 | refine below_set ?_ GE399.out | refine below_set ?_ GE400.out) | exact HB.out))))
                              have n5_ := Aside0.mk (blk_below (g := gb399) (o := .cells #[.bool x400000_2, .bool x400001_2, .slice Ao124 x400002_2.length co124, .int .i64 x400003_2, .bool x400004_2] 29 (0, 0)) (by (with_reducible repeat (first | refine blk_drewN ?_ _ | refine blk_drew ?_ | refine blk_alloc ?_ _)); exact BK399.out) hb)
                              have n6_ := Aside0.mk (blk_below (g := gb400) (o := .cells #[.bool x401000_2, .bool x401001_2, .slice Ao126 x401002_2.length co126, .int .i64 x401003_2, .bool x401004_2] 29 (0, 0)) (by (with_reducible repeat (first | refine blk_drewN ?_ _ | refine blk_drew ?_ | refine blk_alloc ?_ _)); exact BK400.out) hb)
                              have n7_ := Aside0.mk (below_step (by repeat (first | (with_reducible first | exact HB.out | apply below_alloc | apply pw_below_drewN | apply below_drew1 | refine below_set ?_ GE399.out | refine below_set ?_ GE400.out) | exact HB.out)) hb)
                              clear HO_7
                              clear HO_400002
                              clear HO_401002
                              clear HO456
                              clear BK399
                              clear BK400
                              clear HB
                              have HO_7 := n0_
                              have HO_400002 := n1_
                              have HO_401002 := n2_
                              have HO456 := n3_
                              have HO463 := n4_
                              have BK399 := n5_
                              have BK400 := n6_
                              have HB := n7_
                              clear n0_ n1_ n2_ n3_ n4_ n5_ n6_ n7_
                              (try clear hb)
                              (try clear hb2)
                              (try clear hk)
                              (try clear hi)
                              (try clear ho0)
                              obtain ⟨Ao130, co130, eo130⟩ := Kd.R_slice HO456.out
                              (first | subst eo130 | (injection eo130 with f1_ f2_ f3_; have f4_ := f1_.symm; have f5_ := f3_.symm; clear f1_ f2_ f3_; subst f4_; subst f5_))
                              obtain ⟨Ao136, co136, eo136⟩ := Kd.R_slice HO463.out
                              (first | subst eo136 | (injection eo136 with f1_ f2_ f3_; have f4_ := f1_.symm; have f5_ := f3_.symm; clear f1_ f2_ f3_; subst f4_; subst f5_))
                              refine hK.out _ _ ⟨(blk_cell BK399.out 0).trans rfl, (blk_cell BK399.out 1).trans rfl, (blk_cell BK399.out 2).trans rfl, (blk_cell BK399.out 3).trans rfl, (blk_cell BK399.out 4).trans rfl, (blk_cell BK400.out 0).trans rfl, (blk_cell BK400.out 1).trans rfl, (blk_cell BK400.out 2).trans rfl, (blk_cell BK400.out 3).trans rfl, (blk_cell BK400.out 4).trans rfl⟩ (fun hHeld => ?_)
                              clear hK K
                              refine norm_ (a' := ?_) ?_ ?_
                              rotate_left
                              · show Act.put _ (some 45) _ = _
                                simp only [Act.put, List.setIfInBounds_toArray, List.set_cons_zero, List.set_cons_succ, i64_w, i32_w]
                                rfl
                              refine last_ (i := 4) (N := none) #[true, true, true, true, true, false] rfl rfl (by kernel_rfl) (by decide) (fun K hK => ?_)
                              have hs128 : w127.cell? ⟨gb399, 0, none⟩ = some (.bool x400000_2) := (blk_cell BK399.out 0).trans rfl
                              have hfs128 := blk_frozen BK399.out 0
                              have hns128_1 := NB400_399.out
                              have hms128_1 := NB399_400.out
                              have hs129 : w127.cell? ⟨gb399, 1, none⟩ = some (.bool x400001_2) := (blk_cell BK399.out 1).trans rfl
                              have hfs129 := blk_frozen BK399.out 1
                              have hns129_1 := NB400_399.out
                              have hms129_1 := NB399_400.out
                              have hs131 : w127.cell? ⟨gb399, 2, none⟩ = some (.slice Ao124 x400002_2.length co124) := (blk_cell BK399.out 2).trans rfl
                              have hfs131 := blk_frozen BK399.out 2
                              have hns131_1 := NB400_399.out
                              have hms131_1 := NB399_400.out
                              have hs132 : w127.cell? ⟨gb399, 3, none⟩ = some (.int .i64 x400003_2) := (blk_cell BK399.out 3).trans rfl
                              have hfs132 := blk_frozen BK399.out 3
                              have hns132_1 := NB400_399.out
                              have hms132_1 := NB399_400.out
                              have hs133 : w127.cell? ⟨gb399, 4, none⟩ = some (.bool x400004_2) := (blk_cell BK399.out 4).trans rfl
                              have hfs133 := blk_frozen BK399.out 4
                              have hns133_1 := NB400_399.out
                              have hms133_1 := NB399_400.out
                              refine skip_ (w1 := ?_) (by rfl) rfl ?_ ?_
                              rotate_left
                              · go_simp
                                rfl
                              refine hK.out _ _ ?_
                              clear hK K
                              refine last_ (i := 5) (N := none) #[true, true, true, true, true, true] rfl rfl (by kernel_rfl) (by decide) (fun K hK => ?_)
                              have hs134 : w127.cell? ⟨gb400, 0, none⟩ = some (.bool x401000_2) := (blk_cell BK400.out 0).trans rfl
                              have hfs134 := blk_frozen BK400.out 0
                              have hns134_0 := NB399_400.out
                              have hms134_0 := NB400_399.out
                              have hs135 : w127.cell? ⟨gb400, 1, none⟩ = some (.bool x401001_2) := (blk_cell BK400.out 1).trans rfl
                              have hfs135 := blk_frozen BK400.out 1
                              have hns135_0 := NB399_400.out
                              have hms135_0 := NB400_399.out
                              have hs137 : w127.cell? ⟨gb400, 2, none⟩ = some (.slice Ao126 x401002_2.length co126) := (blk_cell BK400.out 2).trans rfl
                              have hfs137 := blk_frozen BK400.out 2
                              have hns137_0 := NB399_400.out
                              have hms137_0 := NB400_399.out
                              have hs138 : w127.cell? ⟨gb400, 3, none⟩ = some (.int .i64 x401003_2) := (blk_cell BK400.out 3).trans rfl
                              have hfs138 := blk_frozen BK400.out 3
                              have hns138_0 := NB399_400.out
                              have hms138_0 := NB400_399.out
                              have hs139 : w127.cell? ⟨gb400, 4, none⟩ = some (.bool x401004_2) := (blk_cell BK400.out 4).trans rfl
                              have hfs139 := blk_frozen BK400.out 4
                              have hns139_0 := NB399_400.out
                              have hms139_0 := NB400_399.out
                              refine skip_ (w1 := ?_) (by rfl) rfl ?_ ?_
                              rotate_left
                              · go_simp
                                rfl
                              refine hK.out _ _ ?_
                              clear hK K
                              refine done_ (by kernel_rfl) ?_
                              have hnb140 := NB399_400.out
                              have hnc140 := NB400_399.out
                              have hcz141_0 : w127.cell? ⟨gb399, 0, none⟩ = some (.bool x400000_2) := (blk_cell BK399.out 0).trans rfl
                              have hcz141_1 : w127.cell? ⟨gb399, 1, none⟩ = some (.bool x400001_2) := (blk_cell BK399.out 1).trans rfl
                              have hcz141_2 : w127.cell? ⟨gb399, 2, none⟩ = some (.slice Ao124 x400002_2.length co124) := (blk_cell BK399.out 2).trans rfl
                              have hcz141_3 : w127.cell? ⟨gb399, 3, none⟩ = some (.int .i64 x400003_2) := (blk_cell BK399.out 3).trans rfl
                              have hcz141_4 : w127.cell? ⟨gb399, 4, none⟩ = some (.bool x400004_2) := (blk_cell BK399.out 4).trans rfl
                              have hfz141_0 := blk_frozen BK399.out 0
                              have hfz141_1 := blk_frozen BK399.out 1
                              have hfz141_2 := blk_frozen BK399.out 2
                              have hfz141_3 := blk_frozen BK399.out 3
                              have hfz141_4 := blk_frozen BK399.out 4
                              have hcz142_0 : w127.cell? ⟨gb400, 0, none⟩ = some (.bool x401000_2) := (blk_cell BK400.out 0).trans rfl
                              have hcz142_1 : w127.cell? ⟨gb400, 1, none⟩ = some (.bool x401001_2) := (blk_cell BK400.out 1).trans rfl
                              have hcz142_2 : w127.cell? ⟨gb400, 2, none⟩ = some (.slice Ao126 x401002_2.length co126) := (blk_cell BK400.out 2).trans rfl
                              have hcz142_3 : w127.cell? ⟨gb400, 3, none⟩ = some (.int .i64 x401003_2) := (blk_cell BK400.out 3).trans rfl
                              have hcz142_4 : w127.cell? ⟨gb400, 4, none⟩ = some (.bool x401004_2) := (blk_cell BK400.out 4).trans rfl
                              have hfz142_0 := blk_frozen BK400.out 0
                              have hfz142_1 := blk_frozen BK400.out 1
                              have hfz142_2 := blk_frozen BK400.out 2
                              have hfz142_3 := blk_frozen BK400.out 3
                              have hfz142_4 := blk_frozen BK400.out 4
                              try go_wp2_with (first | ((with_reducible refine gate_callee (f := 17) rfl ?_); refine goesL_ (some 85) rfl rfl Try.func17 (by kernel_rfl) rfl #[.agg #[.bool t452, .bool t453, .slice Ao130 t454.length co130, .int .i64 t457, .bool t458], .agg #[.bool t459, .bool t460, .slice Ao136 t461.length co136, .int .i64 t464, .bool t465]] rfl (by (try simp only [List.map_toArray, List.map_cons, List.map_nil]); first | done | rfl | (simp only [List.length_drop, List.length_take]; rfl)) ?_; (with_reducible refine (reprisehelp_Search.calls kj29 t452 t453 _ _ t454 t457 t458 t459 t460 _ _ t461 t464 t465 true _ ?side1 ?side2 ?side3 ?side4 A121.out).mono ?_); (case side1 => refine (Kd.R_reads' (e := 21) (base := w.heap.size) (ok := fun k_ => (((True ∧ some k_ ≠ (.slice Ao124 x400002_2.length co124 : Value).ownBlock) ∧ some k_ ≠ (.slice Ao126 x401002_2.length co126 : Value).ownBlock) ∧ some k_ ≠ (.slice Ao136 t461.length co136 : Value).ownBlock)) (n := t454.length) (c := co130) ?_).2.2; exact (by (with_reducible repeat (first | apply Kd.R_alloc | apply Kd.R_drewN | apply Kd.R_drew)); exact (Kd.R_mono (Kd.R_mono (Kd.R_far (p := ⟨gb400, 4, none⟩) (Kd.R_far (p := ⟨gb400, 3, none⟩) (Kd.R_far (p := ⟨gb400, 2, none⟩) (Kd.R_far (p := ⟨gb400, 1, none⟩) (Kd.R_far (p := ⟨gb400, 0, none⟩) (Kd.R_far (p := ⟨gb399, 4, none⟩) (Kd.R_far (p := ⟨gb399, 3, none⟩) (Kd.R_far (p := ⟨gb399, 2, none⟩) (Kd.R_far (p := ⟨gb399, 1, none⟩) (Kd.R_far (p := ⟨gb399, 0, none⟩) (Kd.R_types (Kd.R_types HO456.out BK399.out (by decide)) BK400.out (by decide)) (fun _ hk => hk.1.2) (.bool t452)) (fun _ hk => hk.1.2) (.bool t453)) (fun _ hk => hk.1.2) (.slice Ao130 t454.length co130)) (fun _ hk => hk.1.2) (.int .i64 t457)) (fun _ hk => hk.1.2) (.bool t458)) (fun _ hk => hk.2) (.bool t459)) (fun _ hk => hk.2) (.bool t460)) (fun _ hk => hk.2) (.slice Ao136 t461.length co136)) (fun _ hk => hk.2) (.int .i64 t464)) (fun _ hk => hk.2) (.bool t465)) (fun _ h_ => h_.1)) (fun _ h_ => h_.1)))); (case side2 => exact (Kd.R_reads' HO456.out).2.1); (case side3 => refine (Kd.R_reads' (e := 21) (base := w.heap.size) (ok := fun k_ => (((True ∧ some k_ ≠ (.slice Ao124 x400002_2.length co124 : Value).ownBlock) ∧ some k_ ≠ (.slice Ao126 x401002_2.length co126 : Value).ownBlock) ∧ some k_ ≠ (.slice Ao130 t454.length co130 : Value).ownBlock)) (n := t461.length) (c := co136) ?_).2.2; exact (by (with_reducible repeat (first | apply Kd.R_alloc | apply Kd.R_drewN | apply Kd.R_drew)); exact (Kd.R_mono (Kd.R_mono (Kd.R_far (p := ⟨gb400, 4, none⟩) (Kd.R_far (p := ⟨gb400, 3, none⟩) (Kd.R_far (p := ⟨gb400, 2, none⟩) (Kd.R_far (p := ⟨gb400, 1, none⟩) (Kd.R_far (p := ⟨gb400, 0, none⟩) (Kd.R_far (p := ⟨gb399, 4, none⟩) (Kd.R_far (p := ⟨gb399, 3, none⟩) (Kd.R_far (p := ⟨gb399, 2, none⟩) (Kd.R_far (p := ⟨gb399, 1, none⟩) (Kd.R_far (p := ⟨gb399, 0, none⟩) (Kd.R_types (Kd.R_types HO463.out BK399.out (by decide)) BK400.out (by decide)) (fun _ hk => hk.1.2) (.bool t452)) (fun _ hk => hk.1.2) (.bool t453)) (fun _ hk => hk.1.2) (.slice Ao130 t454.length co130)) (fun _ hk => hk.1.2) (.int .i64 t457)) (fun _ hk => hk.1.2) (.bool t458)) (fun _ hk => hk.2) (.bool t459)) (fun _ hk => hk.2) (.bool t460)) (fun _ hk => hk.2) (.slice Ao136 t461.length co136)) (fun _ hk => hk.2) (.int .i64 t464)) (fun _ hk => hk.2) (.bool t465)) (fun _ h_ => h_.1)) (fun _ h_ => h_.1)))); (case side4 => exact (Kd.R_reads' HO463.out).2.1); rintro e w143 ⟨rfl, hb⟩; refine ⟨_, rfl, ?_⟩; have n0_ := Aside0.mk (Kd.Q_below (by (with_reducible repeat (first | apply Kd.Q_alloc | apply Kd.Q_drewN | apply Kd.Q_drew)); exact (Kd.Q_mono (Kd.Q_mono (Kd.Q_far (p := ⟨gb400, 4, none⟩) (Kd.Q_far (p := ⟨gb400, 3, none⟩) (Kd.Q_far (p := ⟨gb400, 2, none⟩) (Kd.Q_far (p := ⟨gb400, 1, none⟩) (Kd.Q_far (p := ⟨gb400, 0, none⟩) (Kd.Q_far (p := ⟨gb399, 4, none⟩) (Kd.Q_far (p := ⟨gb399, 3, none⟩) (Kd.Q_far (p := ⟨gb399, 2, none⟩) (Kd.Q_far (p := ⟨gb399, 1, none⟩) (Kd.Q_far (p := ⟨gb399, 0, none⟩) (Kd.Q_types (Kd.Q_types HO_7.out BK399.out (by decide)) BK400.out (by decide)) (fun _ hk => hk.1.2) (.bool t452)) (fun _ hk => hk.1.2) (.bool t453)) (fun _ hk => hk.1.2) (.slice Ao130 t454.length co130)) (fun _ hk => hk.1.2) (.int .i64 t457)) (fun _ hk => hk.1.2) (.bool t458)) (fun _ hk => hk.2) (.bool t459)) (fun _ hk => hk.2) (.bool t460)) (fun _ hk => hk.2) (.slice Ao136 t461.length co136)) (fun _ hk => hk.2) (.int .i64 t464)) (fun _ hk => hk.2) (.bool t465)) (fun _ h_ => h_.1)) (fun _ h_ => h_.1))) hb); have n1_ := Aside0.mk (Kd.R_below (by (with_reducible repeat (first | apply Kd.R_alloc | apply Kd.R_drewN | apply Kd.R_drew)); exact (Kd.R_mono (Kd.R_mono (Kd.R_far (p := ⟨gb400, 4, none⟩) (Kd.R_far (p := ⟨gb400, 3, none⟩) (Kd.R_far (p := ⟨gb400, 2, none⟩) (Kd.R_far (p := ⟨gb400, 1, none⟩) (Kd.R_far (p := ⟨gb400, 0, none⟩) (Kd.R_far (p := ⟨gb399, 4, none⟩) (Kd.R_far (p := ⟨gb399, 3, none⟩) (Kd.R_far (p := ⟨gb399, 2, none⟩) (Kd.R_far (p := ⟨gb399, 1, none⟩) (Kd.R_far (p := ⟨gb399, 0, none⟩) (Kd.R_types (Kd.R_types HO_400002.out BK399.out (by decide)) BK400.out (by decide)) (fun _ hk => hk.1.2) (.bool t452)) (fun _ hk => hk.1.2) (.bool t453)) (fun _ hk => hk.1.2) (.slice Ao130 t454.length co130)) (fun _ hk => hk.1.2) (.int .i64 t457)) (fun _ hk => hk.1.2) (.bool t458)) (fun _ hk => hk.2) (.bool t459)) (fun _ hk => hk.2) (.bool t460)) (fun _ hk => hk.2) (.slice Ao136 t461.length co136)) (fun _ hk => hk.2) (.int .i64 t464)) (fun _ hk => hk.2) (.bool t465)) (fun _ h_ => h_.1)) (fun _ h_ => h_.1))) hb); have n2_ := Aside0.mk (Kd.R_below (by (with_reducible repeat (first | apply Kd.R_alloc | apply Kd.R_drewN | apply Kd.R_drew)); exact (Kd.R_mono (Kd.R_mono (Kd.R_far (p := ⟨gb400, 4, none⟩) (Kd.R_far (p := ⟨gb400, 3, none⟩) (Kd.R_far (p := ⟨gb400, 2, none⟩) (Kd.R_far (p := ⟨gb400, 1, none⟩) (Kd.R_far (p := ⟨gb400, 0, none⟩) (Kd.R_far (p := ⟨gb399, 4, none⟩) (Kd.R_far (p := ⟨gb399, 3, none⟩) (Kd.R_far (p := ⟨gb399, 2, none⟩) (Kd.R_far (p := ⟨gb399, 1, none⟩) (Kd.R_far (p := ⟨gb399, 0, none⟩) (Kd.R_types (Kd.R_types HO_401002.out BK399.out (by decide)) BK400.out (by decide)) (fun _ hk => hk.1.2) (.bool t452)) (fun _ hk => hk.1.2) (.bool t453)) (fun _ hk => hk.1.2) (.slice Ao130 t454.length co130)) (fun _ hk => hk.1.2) (.int .i64 t457)) (fun _ hk => hk.1.2) (.bool t458)) (fun _ hk => hk.2) (.bool t459)) (fun _ hk => hk.2) (.bool t460)) (fun _ hk => hk.2) (.slice Ao136 t461.length co136)) (fun _ hk => hk.2) (.int .i64 t464)) (fun _ hk => hk.2) (.bool t465)) (fun _ h_ => h_.1)) (fun _ h_ => h_.1))) hb); have n3_ := Aside0.mk (Kd.R_below (by (with_reducible repeat (first | apply Kd.R_alloc | apply Kd.R_drewN | apply Kd.R_drew)); exact (Kd.R_mono (Kd.R_mono (Kd.R_far (p := ⟨gb400, 4, none⟩) (Kd.R_far (p := ⟨gb400, 3, none⟩) (Kd.R_far (p := ⟨gb400, 2, none⟩) (Kd.R_far (p := ⟨gb400, 1, none⟩) (Kd.R_far (p := ⟨gb400, 0, none⟩) (Kd.R_far (p := ⟨gb399, 4, none⟩) (Kd.R_far (p := ⟨gb399, 3, none⟩) (Kd.R_far (p := ⟨gb399, 2, none⟩) (Kd.R_far (p := ⟨gb399, 1, none⟩) (Kd.R_far (p := ⟨gb399, 0, none⟩) (Kd.R_types (Kd.R_types HO456.out BK399.out (by decide)) BK400.out (by decide)) (fun _ hk => hk.1.2) (.bool t452)) (fun _ hk => hk.1.2) (.bool t453)) (fun _ hk => hk.1.2) (.slice Ao130 t454.length co130)) (fun _ hk => hk.1.2) (.int .i64 t457)) (fun _ hk => hk.1.2) (.bool t458)) (fun _ hk => hk.2) (.bool t459)) (fun _ hk => hk.2) (.bool t460)) (fun _ hk => hk.2) (.slice Ao136 t461.length co136)) (fun _ hk => hk.2) (.int .i64 t464)) (fun _ hk => hk.2) (.bool t465)) (fun _ h_ => h_.1)) (fun _ h_ => h_.1))) hb); have n4_ := Aside0.mk (Kd.R_below (by (with_reducible repeat (first | apply Kd.R_alloc | apply Kd.R_drewN | apply Kd.R_drew)); exact (Kd.R_mono (Kd.R_mono (Kd.R_far (p := ⟨gb400, 4, none⟩) (Kd.R_far (p := ⟨gb400, 3, none⟩) (Kd.R_far (p := ⟨gb400, 2, none⟩) (Kd.R_far (p := ⟨gb400, 1, none⟩) (Kd.R_far (p := ⟨gb400, 0, none⟩) (Kd.R_far (p := ⟨gb399, 4, none⟩) (Kd.R_far (p := ⟨gb399, 3, none⟩) (Kd.R_far (p := ⟨gb399, 2, none⟩) (Kd.R_far (p := ⟨gb399, 1, none⟩) (Kd.R_far (p := ⟨gb399, 0, none⟩) (Kd.R_types (Kd.R_types HO463.out BK399.out (by decide)) BK400.out (by decide)) (fun _ hk => hk.1.2) (.bool t452)) (fun _ hk => hk.1.2) (.bool t453)) (fun _ hk => hk.1.2) (.slice Ao130 t454.length co130)) (fun _ hk => hk.1.2) (.int .i64 t457)) (fun _ hk => hk.1.2) (.bool t458)) (fun _ hk => hk.2) (.bool t459)) (fun _ hk => hk.2) (.bool t460)) (fun _ hk => hk.2) (.slice Ao136 t461.length co136)) (fun _ hk => hk.2) (.int .i64 t464)) (fun _ hk => hk.2) (.bool t465)) (fun _ h_ => h_.1)) (fun _ h_ => h_.1))) hb); have n5_ := Aside0.mk (blk_below (g := gb399) (o := .cells #[.bool t452, .bool t453, .slice Ao130 t454.length co130, .int .i64 t457, .bool t458] 29 (0, 0)) (by (with_reducible repeat (first | refine blk_drewN ?_ _ | refine blk_drew ?_ | refine blk_alloc ?_ _)); refine blk_far ?_ NB399_400.out _; (with_reducible repeat (first | refine blk_drewN ?_ _ | refine blk_drew ?_ | refine blk_alloc ?_ _)); refine blk_far ?_ NB399_400.out _; (with_reducible repeat (first | refine blk_drewN ?_ _ | refine blk_drew ?_ | refine blk_alloc ?_ _)); refine blk_far ?_ NB399_400.out _; (with_reducible repeat (first | refine blk_drewN ?_ _ | refine blk_drew ?_ | refine blk_alloc ?_ _)); refine blk_far ?_ NB399_400.out _; (with_reducible repeat (first | refine blk_drewN ?_ _ | refine blk_drew ?_ | refine blk_alloc ?_ _)); refine blk_far ?_ NB399_400.out _; (with_reducible repeat (first | refine blk_drewN ?_ _ | refine blk_drew ?_ | refine blk_alloc ?_ _)); refine blk_put (cs := #[.bool t452, .bool t453, .slice Ao130 t454.length co130, .int .i64 t457, .bool x400004_2]) ?_ 4 _ rfl; (with_reducible repeat (first | refine blk_drewN ?_ _ | refine blk_drew ?_ | refine blk_alloc ?_ _)); refine blk_put (cs := #[.bool t452, .bool t453, .slice Ao130 t454.length co130, .int .i64 x400003_2, .bool x400004_2]) ?_ 3 _ rfl; (with_reducible repeat (first | refine blk_drewN ?_ _ | refine blk_drew ?_ | refine blk_alloc ?_ _)); refine blk_put (cs := #[.bool t452, .bool t453, .slice Ao124 x400002_2.length co124, .int .i64 x400003_2, .bool x400004_2]) ?_ 2 _ rfl; (with_reducible repeat (first | refine blk_drewN ?_ _ | refine blk_drew ?_ | refine blk_alloc ?_ _)); refine blk_put (cs := #[.bool t452, .bool x400001_2, .slice Ao124 x400002_2.length co124, .int .i64 x400003_2, .bool x400004_2]) ?_ 1 _ rfl; (with_reducible repeat (first | refine blk_drewN ?_ _ | refine blk_drew ?_ | refine blk_alloc ?_ _)); refine blk_put (cs := #[.bool x400000_2, .bool x400001_2, .slice Ao124 x400002_2.length co124, .int .i64 x400003_2, .bool x400004_2]) ?_ 0 _ rfl; (with_reducible repeat (first | refine blk_drewN ?_ _ | refine blk_drew ?_ | refine blk_alloc ?_ _)); exact BK399.out) hb); have n6_ := Aside0.mk (blk_below (g := gb400) (o := .cells #[.bool t459, .bool t460, .slice Ao136 t461.length co136, .int .i64 t464, .bool t465] 29 (0, 0)) (by (with_reducible repeat (first | refine blk_drewN ?_ _ | refine blk_drew ?_ | refine blk_alloc ?_ _)); refine blk_put (cs := #[.bool t459, .bool t460, .slice Ao136 t461.length co136, .int .i64 t464, .bool x401004_2]) ?_ 4 _ rfl; (with_reducible repeat (first | refine blk_drewN ?_ _ | refine blk_drew ?_ | refine blk_alloc ?_ _)); refine blk_put (cs := #[.bool t459, .bool t460, .slice Ao136 t461.length co136, .int .i64 x401003_2, .bool x401004_2]) ?_ 3 _ rfl; (with_reducible repeat (first | refine blk_drewN ?_ _ | refine blk_drew ?_ | refine blk_alloc ?_ _)); refine blk_put (cs := #[.bool t459, .bool t460, .slice Ao126 x401002_2.length co126, .int .i64 x401003_2, .bool x401004_2]) ?_ 2 _ rfl; (with_reducible repeat (first | refine blk_drewN ?_ _ | refine blk_drew ?_ | refine blk_alloc ?_ _)); refine blk_put (cs := #[.bool t459, .bool x401001_2, .slice Ao126 x401002_2.length co126, .int .i64 x401003_2, .bool x401004_2]) ?_ 1 _ rfl; (with_reducible repeat (first | refine blk_drewN ?_ _ | refine blk_drew ?_ | refine blk_alloc ?_ _)); refine blk_put (cs := #[.bool x401000_2, .bool x401001_2, .slice Ao126 x401002_2.length co126, .int .i64 x401003_2, .bool x401004_2]) ?_ 0 _ rfl; (with_reducible repeat (first | refine blk_drewN ?_ _ | refine blk_drew ?_ | refine blk_alloc ?_ _)); refine blk_far ?_ NB400_399.out _; (with_reducible repeat (first | refine blk_drewN ?_ _ | refine blk_drew ?_ | refine blk_alloc ?_ _)); refine blk_far ?_ NB400_399.out _; (with_reducible repeat (first | refine blk_drewN ?_ _ | refine blk_drew ?_ | refine blk_alloc ?_ _)); refine blk_far ?_ NB400_399.out _; (with_reducible repeat (first | refine blk_drewN ?_ _ | refine blk_drew ?_ | refine blk_alloc ?_ _)); refine blk_far ?_ NB400_399.out _; (with_reducible repeat (first | refine blk_drewN ?_ _ | refine blk_drew ?_ | refine blk_alloc ?_ _)); refine blk_far ?_ NB400_399.out _; (with_reducible repeat (first | refine blk_drewN ?_ _ | refine blk_drew ?_ | refine blk_alloc ?_ _)); exact BK400.out) hb); have n7_ := Aside0.mk (below_step (by repeat (first | (with_reducible first | exact HB.out | apply below_alloc | apply pw_below_drewN | apply below_drew1 | refine below_set ?_ GE399.out | refine below_set ?_ GE400.out) | exact HB.out)) hb); clear HO_7; clear HO_400002; clear HO_401002; clear HO456; clear HO463; clear BK399; clear BK400; clear HB; have HO_7 := n0_; have HO_400002 := n1_; have HO_401002 := n2_; have HO456 := n3_; have HO463 := n4_; have BK399 := n5_; have BK400 := n6_; have HB := n7_; clear n0_ n1_ n2_ n3_ n4_ n5_ n6_ n7_; (try clear hb); (try clear hb2); (try clear hk); (try clear hi)))
                              go_roundg kj29
                              case measure => have := HJ5.out; have := HK2.out; have := HJ29.out; omega
                              case rel => exact ⟨(wrap64 (x10_2 + 1)), (t452), (t453), (t454), (t457), (t458), (t459), (t460), (t461), (t464), (t465), (.slice Ao130 t454.length co130), (.slice Ao136 t461.length co136), (by first | rfl | (simp; done) | (simp [*]; done)), H', ⟨by have := HJ5.out; have := HK2.out; have := HJ29.out; omega⟩, ⟨by (with_reducible repeat (first | apply Kd.Q_alloc | apply Kd.Q_drewN | apply Kd.Q_drew)); exact HO_7.out⟩, ⟨by (with_reducible repeat (first | apply Kd.R_alloc | apply Kd.R_drewN | apply Kd.R_drew)); exact Kd.R_mono HO456.out (fun _ hk => hk.2)⟩, ⟨by (with_reducible repeat (first | apply Kd.R_alloc | apply Kd.R_drewN | apply Kd.R_drew)); exact Kd.R_mono HO463.out (fun _ hk => hk.2)⟩, ⟨by (with_reducible repeat (first | refine blk_drewN ?_ _ | refine blk_drew ?_ | refine blk_alloc ?_ _)); exact BK399.out⟩, ⟨by (with_reducible repeat (first | refine blk_drewN ?_ _ | refine blk_drew ?_ | refine blk_alloc ?_ _)); exact BK400.out⟩, ⟨by repeat (first | (with_reducible first | exact HB.out | apply below_alloc | apply pw_below_drewN | apply below_drew1 | refine below_set ?_ GE399.out | refine below_set ?_ GE400.out) | exact HB.out)⟩⟩
                            · replace c122 := Bool.eq_false_iff.mpr c122
                              subst c122
                              have H1 : (none) = some r := by rw [if_neg (show ¬ (false = true) by decide)] at H; exact H
                              clear H
                              have H := H1
                              clear H1
                              exact absurd H (by simp)
                · rw [if_neg c29] at H
                  exact absurd H (by simp)
              · rw [if_neg c28] at H
                have c28b0 : decide (x10_2 < (l1.length : Int)) = false := decide_eq_false c28
                clear c28
                obtain rfl := Option.some.inj H
                go_wp2
                go_ret
                exact ⟨by first | rfl | (simp [errW_none, errW_some] <;> rfl) | (simp [*, errW_none, errW_some] <;> rfl), by repeat (first | (with_reducible first | exact HB.out | apply below_alloc | apply pw_below_drewN | apply below_drew1 | refine below_set ?_ GE399.out | refine below_set ?_ GE400.out) | exact HB.out)⟩
  · replace c5 := Bool.eq_false_iff.mpr c5
    subst c5
    have H1 : (none) = some r := by rw [if_neg (show ¬ (false = true) by decide)] at H; exact H
    clear H
    have H := H1
    clear H1
    exact absurd H (by simp)

/-- THE ONE PURE STATEMENT of repriselaw16_SearchPlays: yours. -/
def repriselaw16_SearchPlays.Pure : Prop := ∀ (l0 : List Int) (l1 : List Int) (a2 : Bool), l0.length ≤ maxLen → l0.length * 1 ≤ 140737488351232 → (∀ x ∈ l0, (Lit.int .u8 x).wf = true) → l1.length ≤ maxLen → l1.length * 1 ≤ 140737488351232 → (∀ x ∈ l1, (Lit.int .u8 x).wf = true) → ∃ k, repriselaw16_SearchPlays.f k l0 l1 a2 = some true
theorem repriselaw16_SearchPlays.walk (P : repriselaw16_SearchPlays.Pure) (a0 : Option Addr) (len0 cap0 : Nat) (z0 : List Int) (a1 : Option Addr) (len1 cap1 : Nat) (z1 : List Int) (a2 : Bool) (w : World) (w0 : (a0 = none ∧ len0 = 0 ∧ cap0 = 0 ∧ z0 = []) ∨ ∃ x, a0 = some x ∧ len0 ≤ cap0 ∧ cap0 ≤ maxLen ∧ z0.length = cap0 ∧ (∀ i, i < z0.length → w.cell? (x.add i) = some (.int .u8 (z0.getD i 0))) ∧ ∀ n ∈ z0, (Lit.int .u8 n).wf = true) (y0 : len0 * 1 ≤ 140737488351232) (w1 : (a1 = none ∧ len1 = 0 ∧ cap1 = 0 ∧ z1 = []) ∨ ∃ x, a1 = some x ∧ len1 ≤ cap1 ∧ cap1 ≤ maxLen ∧ z1.length = cap1 ∧ (∀ i, i < z1.length → w.cell? (x.add i) = some (.int .u8 (z1.getD i 0))) ∧ ∀ n ∈ z1, (Lit.int .u8 n).wf = true) (y1 : len1 * 1 ≤ 140737488351232) (hsh : Sh0 w) :
    Calls Try.prog 3 #[.slice a0 len0 cap0, .slice a1 len1 cap1, .bool a2] w fun e w' => e = .returned (.bool true) ∧ Below w.heap.size w w' := by
  obtain ⟨l0, rfl, hr0, hm0, hw0, hc0⟩ := ReadsInt.ofRowC w0
  obtain ⟨l1, rfl, hr1, hm1, hw1, hc1⟩ := ReadsInt.ofRowC w1
  obtain ⟨k, h⟩ := P l0 l1 a2 hm0 y0 hw0 hm1 y1 hw1
  refine (repriselaw16_SearchPlays.calls k _ _ l0 _ _ l1 a2 true w (Kd.C_of_reads (d := (0 : Int)) (h1 := fun _ => rfl) hr0) hc0 (Kd.C_of_reads (d := (0 : Int)) (h1 := fun _ => rfl) hr1) hc1 h).mono ?_
  rintro e w' ⟨rfl, hd⟩
  exact ⟨rfl, hd⟩

end Go.Proofs.Ytoaeibhicbgknaa.QSearchPlays
