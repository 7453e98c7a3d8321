/- Lean functions for the Go functions that the law reaches, and proofs that each call comes to just what its Lean function tells; no condition. (Written by a program of this session.) -/
import Derived.Test.YtmaefdeigienjaaQEventReadsx0
import Derived.Test.YtmaefdeigienjaaQEventReadsx9
import Derived.Test.YtmaefdeigienjaaQEventReadsx11
namespace Go.Proofs.Ytmaefdeigienjaa.QEventReads
open Go.RowKit Go.Proofs.YtmaefdeigienjaaW.PrintWords Go.Proofs.YtmaefdeigienjaaW.PrintLast Go.Proofs.YtmaefdeigienjaaW.PrintMore
attribute [local go_sem] max2_int min2_int max_two min_two max_three min_three max_four min_four   -- for this text's walks alone
set_option linter.unusedVariables false
set_option linter.unusedSimpArgs false
/-! ### repriseref23_Read: function 15 -/
mutual
def repriseref23_Read.j0 : Nat → Int → Int → Int → Int → Int → List Int → Int → Int → Option (Int × Int × List Int × Int × Int × Int × Int)
 | 0, _, _, _, _, _, _, _, _ => none
 | k + 1, x0, x7, x10, x409000, x409001, x409002, x409003, x409004 => if x0 < 0 then (repriseref23_Read.j1 k x0 x7 x10 true x409000 x409001 x409002 x409003 x409004) else (if x0 > 4611686018427387904 then (repriseref23_Read.j1 k x0 x7 x10 true x409000 x409001 x409002 x409003 x409004) else (repriseref23_Read.j1 k x0 x7 x10 (decide (x7 > (IntKind.u64.wrap (wrap64 (4611686018427387904 - x0))))) x409000 x409001 x409002 x409003 x409004))
def repriseref23_Read.j1 : Nat → Int → Int → Int → Bool → Int → Int → List Int → Int → Int → Option (Int × Int × List Int × Int × Int × Int × Int)
 | 0, _, _, _, _, _, _, _, _, _ => none
 | k + 1, x0, x7, x10, x119, x409000, x409001, x409002, x409003, x409004 => if x119 = true then (some (0, 0, ([] : List Int), 0, 0, 0, 21)) else ((repriseref23_Fault.f k x0 (wrap64 (x0 + (wrap64 (x7)))) x409001 x409002 x409003 x409004).bind fun t435 => (if t435 = 0 then (some (wrap64 (x0 + (wrap64 (x7))), x409001, x409002, x409003, x409004, x10, 0)) else (some (0, 0, ([] : List Int), 0, 0, 0, 21))))
end
def repriseref23_Read.f (k : Nat) (a0 : Int) (l1 : List Int) : Option (Int × Int × List Int × Int × Int × Int × Int) := (repriseref1_Read.f k l1).bind fun bt397 => (if bt397.2.2 = 0 then (if 0 ≤ bt397.2.1 then (if bt397.2.1 ≤ (l1.length : Int) then ((repriseref1_Read.f k (l1.drop (bt397.2.1 : Int).toNat)).bind fun bt405 => (if bt405.2.2 = 0 then (if bt405.1 > 2 then (some (0, 0, ([] : List Int), 0, 0, 0, 21)) else (if bt405.1 = 2 then (if 0 ≤ (wrap64 (bt397.2.1 + bt405.2.1)) then (if (wrap64 (bt397.2.1 + bt405.2.1)) ≤ (l1.length : Int) then ((repriseref1_Read.f k (l1.drop ((wrap64 (bt397.2.1 + bt405.2.1)) : Int).toNat)).bind fun bt414 => (if bt414.2.2 = 0 then (if 0 ≤ (wrap64 ((wrap64 (bt397.2.1 + bt405.2.1)) + bt414.2.1)) then (if (wrap64 ((wrap64 (bt397.2.1 + bt405.2.1)) + bt414.2.1)) ≤ (l1.length : Int) then ((repriseref1_Read.f k (l1.drop ((wrap64 ((wrap64 (bt397.2.1 + bt405.2.1)) + bt414.2.1)) : Int).toNat)).bind fun bt422 => (if bt422.2.2 = 0 then (repriseref23_Read.j0 k a0 bt397.1 (wrap64 ((wrap64 ((wrap64 (bt397.2.1 + bt405.2.1)) + bt414.2.1)) + bt422.2.1)) 0 2 ([] : List Int) (wrap64 (mn bt414.1 2000)) (wrap64 (mn bt422.1 2000))) else (some (0, 0, ([] : List Int), 0, 0, 0, bt422.2.2)))) else (none)) else (none)) else (some (0, 0, ([] : List Int), 0, 0, 0, bt414.2.2)))) else (none)) else (none)) else (if 0 ≤ (wrap64 (bt397.2.1 + bt405.2.1)) then (if (wrap64 (bt397.2.1 + bt405.2.1)) ≤ (l1.length : Int) then ((repriseref1_ReadBytes.f k (l1.drop ((wrap64 (bt397.2.1 + bt405.2.1)) : Int).toNat) 1048576).bind fun bt430 => (if bt430.2.2 = 0 then (repriseref23_Read.j0 k a0 bt397.1 (wrap64 ((wrap64 (bt397.2.1 + bt405.2.1)) + bt430.2.1)) 0 (wrap64 (bt405.1)) bt430.1 0 0) else (some (0, 0, ([] : List Int), 0, 0, 0, bt430.2.2)))) else (none)) else (none)))) else (some (0, 0, ([] : List Int), 0, 0, 0, bt405.2.2)))) else (none)) else (none)) else (some (0, 0, ([] : List Int), 0, 0, 0, bt397.2.2)))
theorem repriseref23_Read.mono_l : ∀ k, (∀ y0 y1 y2 y3 y4 y5 y6 y7, LeO (repriseref23_Read.j0 k y0 y1 y2 y3 y4 y5 y6 y7) (repriseref23_Read.j0 (k + 1) y0 y1 y2 y3 y4 y5 y6 y7)) ∧ (∀ y0 y1 y2 y3 y4 y5 y6 y7 y8, LeO (repriseref23_Read.j1 k y0 y1 y2 y3 y4 y5 y6 y7 y8) (repriseref23_Read.j1 (k + 1) y0 y1 y2 y3 y4 y5 y6 y7 y8))
 | 0 => ⟨fun _ _ _ _ _ _ _ _ r h => by simp [repriseref23_Read.j0] at h, fun _ _ _ _ _ _ _ _ _ r h => by simp [repriseref23_Read.j1] at h⟩
 | k + 1 => by
  obtain ⟨ih0, ih1⟩ := repriseref23_Read.mono_l k; refine ⟨?_, ?_⟩
  ·intro y0 y1 y2 y3 y4 y5 y6 y7
   unfold repriseref23_Read.j0
   repeat' first
   | (with_reducible exact ih0 _ _ _ _ _ _ _ _)
   | (with_reducible exact ih1 _ _ _ _ _ _ _ _ _)
   | (with_reducible exact repriseref1_Read.mono _ _)
   | (with_reducible exact repriseref1_ReadBytes.mono _ _ _)
   | (with_reducible exact repriseref23_Fault.mono _ _ _ _ _ _ _)
   | (with_reducible exact LeO.refl _)
   | (with_reducible exact LeO.none _)
   | (with_reducible refine LeO.ite ?_ ?_)
   | (with_reducible refine LeO.bind ?_ (fun _ => ?_))
   | exact ih0 _ _ _ _ _ _ _ _
   | exact ih1 _ _ _ _ _ _ _ _ _
   | exact repriseref1_Read.mono _ _
   | exact repriseref1_ReadBytes.mono _ _ _
   | exact repriseref23_Fault.mono _ _ _ _ _ _ _
   | exact LeO.none _
   | refine LeO.ite ?_ ?_
   | refine LeO.bind ?_ (fun _ => ?_)
  ·intro y0 y1 y2 y3 y4 y5 y6 y7 y8
   unfold repriseref23_Read.j1
   repeat' first
   | (with_reducible exact ih0 _ _ _ _ _ _ _ _)
   | (with_reducible exact ih1 _ _ _ _ _ _ _ _ _)
   | (with_reducible exact repriseref1_Read.mono _ _)
   | (with_reducible exact repriseref1_ReadBytes.mono _ _ _)
   | (with_reducible exact repriseref23_Fault.mono _ _ _ _ _ _ _)
   | (with_reducible exact LeO.refl _)
   | (with_reducible exact LeO.none _)
   | (with_reducible refine LeO.ite ?_ ?_)
   | (with_reducible refine LeO.bind ?_ (fun _ => ?_))
   | exact ih0 _ _ _ _ _ _ _ _
   | exact ih1 _ _ _ _ _ _ _ _ _
   | exact repriseref1_Read.mono _ _
   | exact repriseref1_ReadBytes.mono _ _ _
   | exact repriseref23_Fault.mono _ _ _ _ _ _ _
   | exact LeO.none _
   | refine LeO.ite ?_ ?_
   | refine LeO.bind ?_ (fun _ => ?_)
theorem repriseref23_Read.mono : ∀ a0 a1 k, LeO (repriseref23_Read.f k a0 a1) (repriseref23_Read.f (k + 1) a0 a1) := by
 intro a0 a1 k
 obtain ⟨ih0, ih1⟩ := repriseref23_Read.mono_l k; unfold repriseref23_Read.f
 repeat' first
  | (with_reducible exact ih0 _ _ _ _ _ _ _ _)
  | (with_reducible exact ih1 _ _ _ _ _ _ _ _ _)
  | (with_reducible exact repriseref1_Read.mono _ _)
  | (with_reducible exact repriseref1_ReadBytes.mono _ _ _)
  | (with_reducible exact repriseref23_Fault.mono _ _ _ _ _ _ _)
  | (with_reducible exact LeO.refl _)
  | (with_reducible exact LeO.none _)
  | (with_reducible refine LeO.ite ?_ ?_)
  | (with_reducible refine LeO.bind ?_ (fun _ => ?_))
  | exact ih0 _ _ _ _ _ _ _ _
  | exact ih1 _ _ _ _ _ _ _ _ _
  | exact repriseref1_Read.mono _ _
  | exact repriseref1_ReadBytes.mono _ _ _
  | exact repriseref23_Fault.mono _ _ _ _ _ _ _
  | exact LeO.none _
  | refine LeO.ite ?_ ?_
  | refine LeO.bind ?_ (fun _ => ?_)
set_option maxHeartbeats 8000000 in
set_option maxRecDepth 100000 in
theorem repriseref23_Read.calls (k : Nat) (a0 : Int) (P1_ : Nat → Prop) (A1 : Option Addr) (c1 : Nat) (l1 : List Int) (r1 : Int) (r2 : Int) (r3 : List Int) (r4 : Int) (r5 : Int) (r6 : Int) (r7 : Int) (w : World) (hs1 : Kd.V (Kd.int .u8) 5 w w.heap.size (fun k_ => P1_ k_) (.slice A1 l1.length c1) l1) (h : repriseref23_Read.f k a0 l1 = some (r1, r2, r3, r4, r5, r6, r7)) :
 Calls Try.prog 15 #[.int .i64 a0, .slice A1 l1.length c1] w fun e w' => ∃ v2_ : Value, e = .returned (.tuple #[.agg #[.int .i64 r1, .int .i64 r2, v2_, .int .i64 r4, .int .i64 r5], .int .i64 r6, .int .i64 r7]) ∧ Kd.V (Kd.int .u8) 5 w' w.heap.size (fun k_ => (P1_ k_ ∨ w.heap.size ≤ k_)) v2_ r3 ∧ Below w.heap.size w w' := by
 have hu30 := Try.underlying30; have HO1 := Aside0.mk (show Kd.V (Kd.int .u8) 5 w w.heap.size (fun k_ => (P1_ k_ ∨ w.heap.size ≤ k_)) (.slice A1 l1.length c1) l1 from Kd.V_mono hs1 (fun k_ hk => .inl hk))
 have HB := Aside0.mk (Below.refl w.heap.size w)
 have H : ((repriseref1_Read.f k l1).bind fun bt397 => (if bt397.2.2 = 0 then (if 0 ≤ bt397.2.1 then (if bt397.2.1 ≤ (l1.length : Int) then ((repriseref1_Read.f k (l1.drop (bt397.2.1 : Int).toNat)).bind fun bt405 => (if bt405.2.2 = 0 then (if bt405.1 > 2 then (some (0, 0, ([] : List Int), 0, 0, 0, 21)) else (if bt405.1 = 2 then (if 0 ≤ (wrap64 (bt397.2.1 + bt405.2.1)) then (if (wrap64 (bt397.2.1 + bt405.2.1)) ≤ (l1.length : Int) then ((repriseref1_Read.f k (l1.drop ((wrap64 (bt397.2.1 + bt405.2.1)) : Int).toNat)).bind fun bt414 => (if bt414.2.2 = 0 then (if 0 ≤ (wrap64 ((wrap64 (bt397.2.1 + bt405.2.1)) + bt414.2.1)) then (if (wrap64 ((wrap64 (bt397.2.1 + bt405.2.1)) + bt414.2.1)) ≤ (l1.length : Int) then ((repriseref1_Read.f k (l1.drop ((wrap64 ((wrap64 (bt397.2.1 + bt405.2.1)) + bt414.2.1)) : Int).toNat)).bind fun bt422 => (if bt422.2.2 = 0 then (repriseref23_Read.j0 k a0 bt397.1 (wrap64 ((wrap64 ((wrap64 (bt397.2.1 + bt405.2.1)) + bt414.2.1)) + bt422.2.1)) 0 2 ([] : List Int) (wrap64 (mn bt414.1 2000)) (wrap64 (mn bt422.1 2000))) else (some (0, 0, ([] : List Int), 0, 0, 0, bt422.2.2)))) else (none)) else (none)) else (some (0, 0, ([] : List Int), 0, 0, 0, bt414.2.2)))) else (none)) else (none)) else (if 0 ≤ (wrap64 (bt397.2.1 + bt405.2.1)) then (if (wrap64 (bt397.2.1 + bt405.2.1)) ≤ (l1.length : Int) then ((repriseref1_ReadBytes.f k (l1.drop ((wrap64 (bt397.2.1 + bt405.2.1)) : Int).toNat) 1048576).bind fun bt430 => (if bt430.2.2 = 0 then (repriseref23_Read.j0 k a0 bt397.1 (wrap64 ((wrap64 (bt397.2.1 + bt405.2.1)) + bt430.2.1)) 0 (wrap64 (bt405.1)) bt430.1 0 0) else (some (0, 0, ([] : List Int), 0, 0, 0, bt430.2.2)))) else (none)) else (none)))) else (some (0, 0, ([] : List Int), 0, 0, 0, bt405.2.2)))) else (none)) else (none)) else (some (0, 0, ([] : List Int), 0, 0, 0, bt397.2.2)))) = some (r1, r2, r3, r4, r5, r6, r7) := h
 clear h; replace H := Option.bind_eq_some_iff.mp H; obtain ⟨⟨t397, t398, t399⟩, A30, H⟩ := H; replace H : (if t399 = 0 then (if 0 ≤ t398 then (if t398 ≤ (l1.length : Int) then ((repriseref1_Read.f k (l1.drop (t398 : Int).toNat)).bind fun bt405 => (if bt405.2.2 = 0 then (if bt405.1 > 2 then (some (0, 0, ([] : List Int), 0, 0, 0, 21)) else (if bt405.1 = 2 then (if 0 ≤ (wrap64 (t398 + bt405.2.1)) then (if (wrap64 (t398 + bt405.2.1)) ≤ (l1.length : Int) then ((repriseref1_Read.f k (l1.drop ((wrap64 (t398 + bt405.2.1)) : Int).toNat)).bind fun bt414 => (if bt414.2.2 = 0 then (if 0 ≤ (wrap64 ((wrap64 (t398 + bt405.2.1)) + bt414.2.1)) then (if (wrap64 ((wrap64 (t398 + bt405.2.1)) + bt414.2.1)) ≤ (l1.length : Int) then ((repriseref1_Read.f k (l1.drop ((wrap64 ((wrap64 (t398 + bt405.2.1)) + bt414.2.1)) : Int).toNat)).bind fun bt422 => (if bt422.2.2 = 0 then (repriseref23_Read.j0 k a0 t397 (wrap64 ((wrap64 ((wrap64 (t398 + bt405.2.1)) + bt414.2.1)) + bt422.2.1)) 0 2 ([] : List Int) (wrap64 (mn bt414.1 2000)) (wrap64 (mn bt422.1 2000))) else (some (0, 0, ([] : List Int), 0, 0, 0, bt422.2.2)))) else (none)) else (none)) else (some (0, 0, ([] : List Int), 0, 0, 0, bt414.2.2)))) else (none)) else (none)) else (if 0 ≤ (wrap64 (t398 + bt405.2.1)) then (if (wrap64 (t398 + bt405.2.1)) ≤ (l1.length : Int) then ((repriseref1_ReadBytes.f k (l1.drop ((wrap64 (t398 + bt405.2.1)) : Int).toNat) 1048576).bind fun bt430 => (if bt430.2.2 = 0 then (repriseref23_Read.j0 k a0 t397 (wrap64 ((wrap64 (t398 + bt405.2.1)) + bt430.2.1)) 0 (wrap64 (bt405.1)) bt430.1 0 0) else (some (0, 0, ([] : List Int), 0, 0, 0, bt430.2.2)))) else (none)) else (none)))) else (some (0, 0, ([] : List Int), 0, 0, 0, bt405.2.2)))) else (none)) else (none)) else (some (0, 0, ([] : List Int), 0, 0, 0, t399))) = some (r1, r2, r3, r4, r5, r6, r7) := H
 have A3 := Aside0.mk A30; clear A30; by_cases c4 : t399 = 0
 ·rw [if_pos c4] at H
  have c4b0 : (t399 == 0) = true := beq_iff_eq.mpr c4
  have c4b1 : (t399 != 0) = false := bne_eq_false_iff_eq.mpr c4
  clear c4; by_cases c5 : 0 ≤ t398
  ·rw [if_pos c5] at H
   have c5b0 := eq_true c5; have c5b1 : decide (0 ≤ t398) = true := decide_eq_true c5
   clear c5; by_cases c6 : t398 ≤ (l1.length : Int)
   ·rw [if_pos c6] at H
    have c6b0 := eq_true c6; have c6b1 : decide (t398 ≤ (l1.length : Int)) = true := decide_eq_true c6
    clear c6; obtain ⟨y400, hy400⟩ : ∃ y_ : List Int, y_ = (l1.drop (t398 : Int).toNat) := ⟨_, rfl⟩
    replace H : ((repriseref1_Read.f k y400).bind fun bt405 => (if bt405.2.2 = 0 then (if bt405.1 > 2 then (some (0, 0, ([] : List Int), 0, 0, 0, 21)) else (if bt405.1 = 2 then (if 0 ≤ (wrap64 (t398 + bt405.2.1)) then (if (wrap64 (t398 + bt405.2.1)) ≤ (l1.length : Int) then ((repriseref1_Read.f k (l1.drop ((wrap64 (t398 + bt405.2.1)) : Int).toNat)).bind fun bt414 => (if bt414.2.2 = 0 then (if 0 ≤ (wrap64 ((wrap64 (t398 + bt405.2.1)) + bt414.2.1)) then (if (wrap64 ((wrap64 (t398 + bt405.2.1)) + bt414.2.1)) ≤ (l1.length : Int) then ((repriseref1_Read.f k (l1.drop ((wrap64 ((wrap64 (t398 + bt405.2.1)) + bt414.2.1)) : Int).toNat)).bind fun bt422 => (if bt422.2.2 = 0 then (repriseref23_Read.j0 k a0 t397 (wrap64 ((wrap64 ((wrap64 (t398 + bt405.2.1)) + bt414.2.1)) + bt422.2.1)) 0 2 ([] : List Int) (wrap64 (mn bt414.1 2000)) (wrap64 (mn bt422.1 2000))) else (some (0, 0, ([] : List Int), 0, 0, 0, bt422.2.2)))) else (none)) else (none)) else (some (0, 0, ([] : List Int), 0, 0, 0, bt414.2.2)))) else (none)) else (none)) else (if 0 ≤ (wrap64 (t398 + bt405.2.1)) then (if (wrap64 (t398 + bt405.2.1)) ≤ (l1.length : Int) then ((repriseref1_ReadBytes.f k (l1.drop ((wrap64 (t398 + bt405.2.1)) : Int).toNat) 1048576).bind fun bt430 => (if bt430.2.2 = 0 then (repriseref23_Read.j0 k a0 t397 (wrap64 ((wrap64 (t398 + bt405.2.1)) + bt430.2.1)) 0 (wrap64 (bt405.1)) bt430.1 0 0) else (some (0, 0, ([] : List Int), 0, 0, 0, bt430.2.2)))) else (none)) else (none)))) else (some (0, 0, ([] : List Int), 0, 0, 0, bt405.2.2)))) = some (r1, r2, r3, r4, r5, r6, r7) := by first | (rw [hy400]; with_reducible exact H) | (have H2_ := (Option.bind_some _ _).symm.trans H; rw [hy400]; with_reducible exact H2_) | (have H2_ := (Option.bind_some _ _).symm.trans H; with_reducible exact H2_) | with_reducible exact H | (rw [hy400]; exact H) | exact H
    have Ny400 := Aside0.mk hy400; clear hy400; replace H := Option.bind_eq_some_iff.mp H; obtain ⟨⟨t405, t406, t407⟩, A70, H⟩ := H; replace H : (if t407 = 0 then (if t405 > 2 then (some (0, 0, ([] : List Int), 0, 0, 0, 21)) else (if t405 = 2 then (if 0 ≤ (wrap64 (t398 + t406)) then (if (wrap64 (t398 + t406)) ≤ (l1.length : Int) then ((repriseref1_Read.f k (l1.drop ((wrap64 (t398 + t406)) : Int).toNat)).bind fun bt414 => (if bt414.2.2 = 0 then (if 0 ≤ (wrap64 ((wrap64 (t398 + t406)) + bt414.2.1)) then (if (wrap64 ((wrap64 (t398 + t406)) + bt414.2.1)) ≤ (l1.length : Int) then ((repriseref1_Read.f k (l1.drop ((wrap64 ((wrap64 (t398 + t406)) + bt414.2.1)) : Int).toNat)).bind fun bt422 => (if bt422.2.2 = 0 then (repriseref23_Read.j0 k a0 t397 (wrap64 ((wrap64 ((wrap64 (t398 + t406)) + bt414.2.1)) + bt422.2.1)) 0 2 ([] : List Int) (wrap64 (mn bt414.1 2000)) (wrap64 (mn bt422.1 2000))) else (some (0, 0, ([] : List Int), 0, 0, 0, bt422.2.2)))) else (none)) else (none)) else (some (0, 0, ([] : List Int), 0, 0, 0, bt414.2.2)))) else (none)) else (none)) else (if 0 ≤ (wrap64 (t398 + t406)) then (if (wrap64 (t398 + t406)) ≤ (l1.length : Int) then ((repriseref1_ReadBytes.f k (l1.drop ((wrap64 (t398 + t406)) : Int).toNat) 1048576).bind fun bt430 => (if bt430.2.2 = 0 then (repriseref23_Read.j0 k a0 t397 (wrap64 ((wrap64 (t398 + t406)) + bt430.2.1)) 0 (wrap64 (t405)) bt430.1 0 0) else (some (0, 0, ([] : List Int), 0, 0, 0, bt430.2.2)))) else (none)) else (none)))) else (some (0, 0, ([] : List Int), 0, 0, 0, t407))) = some (r1, r2, r3, r4, r5, r6, r7) := H
    have A7 := Aside0.mk A70; clear A70; by_cases c8 : t407 = 0
    ·rw [if_pos c8] at H
     have c8b0 : (t407 == 0) = true := beq_iff_eq.mpr c8
     have c8b1 : (t407 != 0) = false := bne_eq_false_iff_eq.mpr c8
     clear c8; by_cases c9 : t405 > 2
     ·rw [if_pos c9] at H
      have c9b0 : decide (2 < t405) = true := decide_eq_true c9
      clear c9; simp only [Option.some.injEq, Prod.mk.injEq] at H
      obtain ⟨rfl, rfl, rfl, rfl, rfl, rfl, rfl⟩ := H; go_enter Try.func15, Try.ntmps15
      go_wp2_with (first | ((with_reducible refine gate_dst (N := 4) rfl ?_); refine box_event ?hg (N := 4) ?hd (cs := #[.int .i64 0, .int .i64 0, .slice none 0 0, .int .i64 0, .int .i64 0]) (t := 30) ?hr ?_; (case hd => rfl); (case hg => rfl); (case hr => first | (go_simp; done) | (go_simp; rfl)); intro gb396 hg w10 hbox hb; have n0_ := Aside0.mk (Kd.V_below (Kd.V_elderB (by (with_reducible repeat (first | apply Kd.V_alloc | apply Kd.V_drewN | apply Kd.V_drew)); exact HO1.out) gb396 (Nat.le_of_eq hg.symm)) hb); have n1_ := Aside0.mk (below_step (by repeat (first | (with_reducible first | exact HB.out | apply below_alloc | apply pw_below_drewN | apply below_drew1) | exact HB.out)) hb); have n2_ := Aside0.mk (hbox); have n3_ := Aside0.mk ((by rw [hg]; exact (below_size (by repeat (first | (with_reducible first | exact HB.out | apply below_alloc | apply pw_below_drewN | apply below_drew1) | exact HB.out))) : w.heap.size ≤ gb396)); have n4_ := Aside0.mk ((by rw [hg]; exact (below_size (by repeat (first | (with_reducible first | exact HB.out | apply below_alloc | apply pw_below_drewN | apply below_drew1) | exact HB.out))) : w.heap.size ≤ gb396)); clear HO1; clear HB; have HO1 := n0_; have HB := n1_; have BK396 := n2_; have GW396 := n3_; have GE396 := n4_; clear n0_ n1_ n2_ n3_ n4_; clear hb hbox hg) | ((with_reducible refine gate_callee (f := 38) rfl ?_); refine goesL_ (some 22) rfl rfl Try.func38 (by kernel_rfl) rfl #[.slice A1 l1.length c1] rfl (by (try simp only [List.map_toArray, List.map_cons, List.map_nil]); first | done | rfl | (simp only [List.length_drop, List.length_take]; rfl)) ?_; (with_reducible refine (repriseref1_Read.calls k _ _ l1 t397 t398 t399 _ ?side1 ?side2 A3.out).mono ?_); (case side1 => repeat (first | exact (Kd.V_reads' HO1.out).2.2 | (with_reducible refine Kd.C_alloc ?_ _) | (with_reducible refine Kd.C_drewN ?_ _) | (with_reducible refine Kd.C_drew ?_))); (case side2 => exact (Kd.V_reads' HO1.out).2.1); rintro e w' ⟨rfl, ⟨nd, rfl⟩⟩; refine ⟨_, rfl, ?_⟩; (try (rw [drewN_self w10]; generalize hq_ : World.drewN w10 _ = w10; have n0_ : Aside0 (Kd.V (Kd.int .u8) 5 w10 w.heap.size (fun k_ => (P1_ k_ ∨ w.heap.size ≤ k_) ∧ k_ ≠ gb396) (.slice A1 l1.length c1) l1) := ⟨by rw [← hq_]; exact (by (with_reducible repeat (first | apply Kd.V_alloc | apply Kd.V_drewN | apply Kd.V_drew)); exact HO1.out)⟩; have n1_ : Aside0 (w10.heap[gb396]? = some (.cells #[.int .i64 0, .int .i64 0, .slice none 0 0, .int .i64 0, .int .i64 0] 30 (0, 0))) := ⟨by rw [← hq_]; exact (by (with_reducible repeat (first | refine blk_drewN ?_ _ | refine blk_drew ?_ | refine blk_alloc ?_ _)); exact BK396.out)⟩; have n2_ : Aside0 (Below w.heap.size w w10) := ⟨by rw [← hq_]; exact (by repeat (first | (with_reducible first | exact HB.out | apply below_alloc | apply pw_below_drewN | apply below_drew1 | refine below_set ?_ GE396.out) | exact HB.out))⟩; clear HO1 BK396 HB hq_; have HO1 := n0_; have BK396 := n1_; have HB := n2_; clear n0_ n1_ n2_)); have q11 : (t398 : Int) ≤ ((l1.length : Int) : Int) := of_decide_eq_true (by first | (with_reducible assumption) | assumption); obtain ⟨i011, hi011, _, hsz11, _⟩ := info_parts info5; have hroom11 : l1.length ≤ c1 := (Kd.V_reads' HO1.out).2.1; have hC11 : Kd.F (Kd.int .u8) _ _ A1 l1.length l1 := (Kd.V_at (base := w.heap.size) HO1.out).2.2; have q011 : (0 : Int) ≤ (t398 : Int) := of_decide_eq_true (by first | (with_reducible assumption) | assumption); have hcut11 := cut_from (P := Try.prog) 22 5 .i64 Try.underlying22 hi011 1 hsz11 A1 l1.length c1 t398 q011 q11; have hr11 := Kd.F_cut (m := (t398 : Int).toNat) (c := c1) hC11 (by omega) hroom11; obtain ⟨A11, hA11⟩ : ∃ Az_, Az_ = (if c1 = (t398 : Int).toNat then A1 else (A1 : Option Addr).map (·.add ((t398 : Int).toNat * 1))) := ⟨_, rfl⟩; obtain ⟨c11, hc11⟩ : ∃ cz_, cz_ = c1 - (t398 : Int).toNat := ⟨_, rfl⟩; have hy11 : y400.length = l1.length - (t398 : Int).toNat := (by rw [Ny400.out, List.length_drop] <;> omega); rw [show (l1).drop (t398 : Int).toNat = y400 from Ny400.out.symm] at hr11; replace hr11 : Kd.F (Kd.int .u8) _ _ A11 y400.length y400 := (by rw [hA11]; exact hr11); rw [← hy11, ← hA11, ← hc11] at hcut11; have HO404 := Aside0.mk (show Kd.V (Kd.int .u8) 5 _ w.heap.size _ (.slice A11 y400.length c11) y400 from Kd.V_mk (by rw [hy11, hc11]; exact Nat.sub_le_sub_right hroom11 _) hr11); have HC404 := Aside0.mk (show y400.length ≤ c11 from by rw [hy11, hc11]; exact Nat.sub_le_sub_right hroom11 _); clear hr11 hC11 hroom11 hi011 hsz11 hc11; have KY11 := Aside0.mk hy11; have KA11 := Aside0.mk hA11; clear hy11 hA11; replace q11 := eq_true q11) | ((with_reducible refine gate_callee (f := 38) rfl ?_); refine goesL_ (some 35) rfl rfl Try.func38 (by kernel_rfl) rfl #[.slice A11 y400.length c11] rfl (by (try simp only [List.map_toArray, List.map_cons, List.map_nil]); first | done | rfl | (simp only [List.length_drop, List.length_take]; rfl)) ?_; (with_reducible refine (repriseref1_Read.calls k _ _ y400 t405 t406 t407 _ ?side1 ?side2 A7.out).mono ?_); (case side1 => repeat (first | exact (Kd.V_reads' HO404.out).2.2 | (with_reducible refine Kd.C_alloc ?_ _) | (with_reducible refine Kd.C_drewN ?_ _) | (with_reducible refine Kd.C_drew ?_))); (case side2 => exact (Kd.V_reads' HO404.out).2.1); rintro e w' ⟨rfl, ⟨nd, rfl⟩⟩; refine ⟨_, rfl, ?_⟩; (try (rw [drewN_self w10]; generalize hq_ : World.drewN w10 _ = w10; have n0_ : Aside0 (Kd.V (Kd.int .u8) 5 w10 w.heap.size (fun k_ => (P1_ k_ ∨ w.heap.size ≤ k_) ∧ k_ ≠ gb396) (.slice A1 l1.length c1) l1) := ⟨by rw [← hq_]; exact (by (with_reducible repeat (first | apply Kd.V_alloc | apply Kd.V_drewN | apply Kd.V_drew)); exact HO1.out)⟩; have n1_ : Aside0 (Kd.V (Kd.int .u8) 5 w10 w.heap.size (fun k_ => (P1_ k_ ∨ w.heap.size ≤ k_) ∧ k_ ≠ gb396) (.slice A11 y400.length c11) y400) := ⟨by rw [← hq_]; exact (by (with_reducible repeat (first | apply Kd.V_alloc | apply Kd.V_drewN | apply Kd.V_drew)); exact HO404.out)⟩; have n2_ : Aside0 (w10.heap[gb396]? = some (.cells #[.int .i64 0, .int .i64 0, .slice none 0 0, .int .i64 0, .int .i64 0] 30 (0, 0))) := ⟨by rw [← hq_]; exact (by (with_reducible repeat (first | refine blk_drewN ?_ _ | refine blk_drew ?_ | refine blk_alloc ?_ _)); exact BK396.out)⟩; have n3_ : Aside0 (Below w.heap.size w w10) := ⟨by rw [← hq_]; exact (by repeat (first | (with_reducible first | exact HB.out | apply below_alloc | apply pw_below_drewN | apply below_drew1 | refine below_set ?_ GE396.out) | exact HB.out))⟩; clear HO1 HO404 BK396 HB hq_; have HO1 := n0_; have HO404 := n1_; have BK396 := n2_; have HB := n3_; clear n0_ n1_ n2_ n3_)); have hcz12_0 : w10.cell? ⟨gb396, 0, none⟩ = some (.int .i64 0) := (blk_cell BK396.out 0).trans rfl; have hcz12_1 : w10.cell? ⟨gb396, 1, none⟩ = some (.int .i64 0) := (blk_cell BK396.out 1).trans rfl; have hcz12_2 : w10.cell? ⟨gb396, 2, none⟩ = some (.slice none 0 0) := (blk_cell BK396.out 2).trans rfl; have hcz12_3 : w10.cell? ⟨gb396, 3, none⟩ = some (.int .i64 0) := (blk_cell BK396.out 3).trans rfl; have hcz12_4 : w10.cell? ⟨gb396, 4, none⟩ = some (.int .i64 0) := (blk_cell BK396.out 4).trans rfl; have hfz12_0 := blk_frozen BK396.out 0; have hfz12_1 := blk_frozen BK396.out 1; have hfz12_2 := blk_frozen BK396.out 2; have hfz12_3 := blk_frozen BK396.out 3; have hfz12_4 := blk_frozen BK396.out 4))
      refine bodyPost_ret (results_ctt rfl _ _ gb396 30 #[.int .i64 0, .int .i64 0, .slice none 0 0, .int .i64 0, .int .i64 0] (0, 0) _ rfl (by (with_reducible repeat (first | refine blk_drewN ?_ _ | refine blk_drew ?_ | refine blk_alloc ?_ _)); refine blk_put (cs := #[.int .i64 0, .int .i64 0, .slice none 0 0, .int .i64 0, .int .i64 0]) ?_ 4 _ rfl; (with_reducible repeat (first | refine blk_drewN ?_ _ | refine blk_drew ?_ | refine blk_alloc ?_ _)); refine blk_put (cs := #[.int .i64 0, .int .i64 0, .slice none 0 0, .int .i64 0, .int .i64 0]) ?_ 3 _ rfl; (with_reducible repeat (first | refine blk_drewN ?_ _ | refine blk_drew ?_ | refine blk_alloc ?_ _)); refine blk_put (cs := #[.int .i64 0, .int .i64 0, .slice none 0 0, .int .i64 0, .int .i64 0]) ?_ 2 _ rfl; (with_reducible repeat (first | refine blk_drewN ?_ _ | refine blk_drew ?_ | refine blk_alloc ?_ _)); refine blk_put (cs := #[.int .i64 0, .int .i64 0, .slice none 0 0, .int .i64 0, .int .i64 0]) ?_ 1 _ rfl; (with_reducible repeat (first | refine blk_drewN ?_ _ | refine blk_drew ?_ | refine blk_alloc ?_ _)); refine blk_put (cs := #[.int .i64 0, .int .i64 0, .slice none 0 0, .int .i64 0, .int .i64 0]) ?_ 0 _ rfl; (with_reducible repeat (first | refine blk_drewN ?_ _ | refine blk_drew ?_ | refine blk_alloc ?_ _)); exact BK396.out) Try.underlying30 rfl (by kernel_rfl)) rfl ?_
      exact ⟨_, by first | rfl | (simp [errW_none, errW_some] <;> rfl) | (simp [*, errW_none, errW_some] <;> rfl), Kd.V_mono (Kd.R_V (Kd.R_nil _ _ _ 0 (fun _ => False))) (fun _ hk => hk.elim), by repeat (first | (with_reducible first | exact HB.out | apply below_alloc | apply pw_below_drewN | apply below_drew1 | refine below_set ?_ GE396.out) | exact HB.out)⟩
     ·rw [if_neg c9] at H
      have c9b0 : decide (2 < t405) = false := decide_eq_false c9
      clear c9; have HC13 := Aside0.mk H; clear H; go_enter Try.func15, Try.ntmps15
      go_upto_if 50 with (first | ((with_reducible refine gate_dst (N := 4) rfl ?_); refine box_event ?hg (N := 4) ?hd (cs := #[.int .i64 0, .int .i64 0, .slice none 0 0, .int .i64 0, .int .i64 0]) (t := 30) ?hr ?_; (case hd => rfl); (case hg => rfl); (case hr => first | (go_simp; done) | (go_simp; rfl)); intro gb396 hg w14 hbox hb; have n0_ := Aside0.mk (Kd.V_below (Kd.V_elderB (by (with_reducible repeat (first | apply Kd.V_alloc | apply Kd.V_drewN | apply Kd.V_drew)); exact HO1.out) gb396 (Nat.le_of_eq hg.symm)) hb); have n1_ := Aside0.mk (below_step (by repeat (first | (with_reducible first | exact HB.out | apply below_alloc | apply pw_below_drewN | apply below_drew1) | exact HB.out)) hb); have n2_ := Aside0.mk (hbox); have n3_ := Aside0.mk ((by rw [hg]; exact (below_size (by repeat (first | (with_reducible first | exact HB.out | apply below_alloc | apply pw_below_drewN | apply below_drew1) | exact HB.out))) : w.heap.size ≤ gb396)); have n4_ := Aside0.mk ((by rw [hg]; exact (below_size (by repeat (first | (with_reducible first | exact HB.out | apply below_alloc | apply pw_below_drewN | apply below_drew1) | exact HB.out))) : w.heap.size ≤ gb396)); clear HO1; clear HB; have HO1 := n0_; have HB := n1_; have BK396 := n2_; have GW396 := n3_; have GE396 := n4_; clear n0_ n1_ n2_ n3_ n4_; clear hb hbox hg) | ((with_reducible refine gate_callee (f := 38) rfl ?_); refine goesL_ (some 22) rfl rfl Try.func38 (by kernel_rfl) rfl #[.slice A1 l1.length c1] rfl (by (try simp only [List.map_toArray, List.map_cons, List.map_nil]); first | done | rfl | (simp only [List.length_drop, List.length_take]; rfl)) ?_; (with_reducible refine (repriseref1_Read.calls k _ _ l1 t397 t398 t399 _ ?side1 ?side2 A3.out).mono ?_); (case side1 => repeat (first | exact (Kd.V_reads' HO1.out).2.2 | (with_reducible refine Kd.C_alloc ?_ _) | (with_reducible refine Kd.C_drewN ?_ _) | (with_reducible refine Kd.C_drew ?_))); (case side2 => exact (Kd.V_reads' HO1.out).2.1); rintro e w' ⟨rfl, ⟨nd, rfl⟩⟩; refine ⟨_, rfl, ?_⟩; have q15 : (t398 : Int) ≤ ((l1.length : Int) : Int) := of_decide_eq_true (by first | (with_reducible assumption) | assumption); obtain ⟨i015, hi015, _, hsz15, _⟩ := info_parts info5; have hroom15 : l1.length ≤ c1 := (Kd.V_reads' HO1.out).2.1; have hC15 : Kd.F (Kd.int .u8) _ _ A1 l1.length l1 := (Kd.V_at (base := w.heap.size) HO1.out).2.2; have q015 : (0 : Int) ≤ (t398 : Int) := of_decide_eq_true (by first | (with_reducible assumption) | assumption); have hcut15 := cut_from (P := Try.prog) 22 5 .i64 Try.underlying22 hi015 1 hsz15 A1 l1.length c1 t398 q015 q15; have hr15 := Kd.F_cut (m := (t398 : Int).toNat) (c := c1) hC15 (by omega) hroom15; obtain ⟨A15, hA15⟩ : ∃ Az_, Az_ = (if c1 = (t398 : Int).toNat then A1 else (A1 : Option Addr).map (·.add ((t398 : Int).toNat * 1))) := ⟨_, rfl⟩; obtain ⟨c15, hc15⟩ : ∃ cz_, cz_ = c1 - (t398 : Int).toNat := ⟨_, rfl⟩; have hy15 : y400.length = l1.length - (t398 : Int).toNat := (by rw [Ny400.out, List.length_drop] <;> omega); rw [show (l1).drop (t398 : Int).toNat = y400 from Ny400.out.symm] at hr15; replace hr15 : Kd.F (Kd.int .u8) _ _ A15 y400.length y400 := (by rw [hA15]; exact hr15); rw [← hy15, ← hA15, ← hc15] at hcut15; have HO404 := Aside0.mk (show Kd.V (Kd.int .u8) 5 _ w.heap.size _ (.slice A15 y400.length c15) y400 from Kd.V_mk (by rw [hy15, hc15]; exact Nat.sub_le_sub_right hroom15 _) hr15); have HC404 := Aside0.mk (show y400.length ≤ c15 from by rw [hy15, hc15]; exact Nat.sub_le_sub_right hroom15 _); clear hr15 hC15 hroom15 hi015 hsz15 hc15; have KY15 := Aside0.mk hy15; have KA15 := Aside0.mk hA15; clear hy15 hA15; replace q15 := eq_true q15) | ((with_reducible refine gate_callee (f := 38) rfl ?_); refine goesL_ (some 35) rfl rfl Try.func38 (by kernel_rfl) rfl #[.slice A15 y400.length c15] rfl (by (try simp only [List.map_toArray, List.map_cons, List.map_nil]); first | done | rfl | (simp only [List.length_drop, List.length_take]; rfl)) ?_; (with_reducible refine (repriseref1_Read.calls k _ _ y400 t405 t406 t407 _ ?side1 ?side2 A7.out).mono ?_); (case side1 => repeat (first | exact (Kd.V_reads' HO404.out).2.2 | (with_reducible refine Kd.C_alloc ?_ _) | (with_reducible refine Kd.C_drewN ?_ _) | (with_reducible refine Kd.C_drew ?_))); (case side2 => exact (Kd.V_reads' HO404.out).2.1); rintro e w' ⟨rfl, ⟨nd, rfl⟩⟩; refine ⟨_, rfl, ?_⟩) | ((with_reducible refine gate_dst (N := 12) rfl ?_); refine box_event ?hg (N := 12) ?hd (cs := #[.int .i64 0, .int .i64 0, .slice none 0 0, .int .i64 0, .int .i64 0]) (t := 30) ?hr ?_; (case hd => rfl); (case hg => rfl); (case hr => first | (go_simp; done) | (go_simp; rfl)); intro gb408 hg w16 hbox hb; have n0_ := Aside0.mk (Kd.V_below (Kd.V_elderB (by (with_reducible repeat (first | apply Kd.V_alloc | apply Kd.V_drewN | apply Kd.V_drew)); exact HO1.out) gb408 (Nat.le_of_eq hg.symm)) hb); have n1_ := Aside0.mk (Kd.V_below (Kd.V_elderB (by (with_reducible repeat (first | apply Kd.V_alloc | apply Kd.V_drewN | apply Kd.V_drew)); exact HO404.out) gb408 (Nat.le_of_eq hg.symm)) hb); have n2_ := Aside0.mk (blk_below (g := gb396) (o := .cells #[.int .i64 0, .int .i64 0, .slice none 0 0, .int .i64 0, .int .i64 0] 30 (0, 0)) (by (with_reducible repeat (first | refine blk_drewN ?_ _ | refine blk_drew ?_ | refine blk_alloc ?_ _)); exact BK396.out) hb); have n3_ := Aside0.mk (below_step (by repeat (first | (with_reducible first | exact HB.out | apply below_alloc | apply pw_below_drewN | apply below_drew1 | refine below_set ?_ GE396.out) | exact HB.out)) hb); have n4_ := Aside0.mk (hbox); have n5_ := Aside0.mk ((by rw [hg]; exact (below_size (by repeat (first | (with_reducible first | exact HB.out | apply below_alloc | apply pw_below_drewN | apply below_drew1 | refine below_set ?_ GE396.out) | exact HB.out))) : w.heap.size ≤ gb408)); have n6_ := Aside0.mk ((by rw [hg]; exact (below_size (by repeat (first | (with_reducible first | exact HB.out | apply below_alloc | apply pw_below_drewN | apply below_drew1 | refine below_set ?_ GE396.out) | exact HB.out))) : w.heap.size ≤ gb408)); have n7_ := Aside0.mk ((by rw [hg]; exact Nat.ne_of_lt (blk_lt (g := gb396) (o := .cells #[.int .i64 0, .int .i64 0, .slice none 0 0, .int .i64 0, .int .i64 0] 30 (0, 0)) (by (with_reducible repeat (first | refine blk_drewN ?_ _ | refine blk_drew ?_ | refine blk_alloc ?_ _)); exact BK396.out)) : gb396 ≠ gb408)); have n8_ := Aside0.mk ((by rw [hg]; exact Nat.ne_of_gt (blk_lt (g := gb396) (o := .cells #[.int .i64 0, .int .i64 0, .slice none 0 0, .int .i64 0, .int .i64 0] 30 (0, 0)) (by (with_reducible repeat (first | refine blk_drewN ?_ _ | refine blk_drew ?_ | refine blk_alloc ?_ _)); exact BK396.out)) : gb408 ≠ gb396)); clear HO1; clear HO404; clear BK396; clear HB; have HO1 := n0_; have HO404 := n1_; have BK396 := n2_; have HB := n3_; have BK408 := n4_; have GW408 := n5_; have GE408 := n6_; have NB396_408 := n7_; have NB408_396 := n8_; clear n0_ n1_ n2_ n3_ n4_ n5_ n6_ n7_ n8_; clear hb hbox hg))
      (try simp only [Act.put, List.setIfInBounds_toArray, List.set_cons_zero, List.set_cons_succ])
      go_cut [10] (fun v10 wc => ∃ (kq : Nat) (x10_12 : Int) (x397000_12 : Int) (x397001_12 : Int) (x397003_12 : Int) (x397004_12 : Int) (x409000_12 : Int) (x409001_12 : Int) (x409002_12 : List Int) (x409003_12 : Int) (x409004_12 : Int) (u409002 : Value), v10 = .int .i64 x10_12 ∧ Aside0 (repriseref23_Read.j0 kq a0 t397 x10_12 x409000_12 x409001_12 x409002_12 x409003_12 x409004_12 = some (r1, r2, r3, r4, r5, r6, r7)) ∧ Aside0 (kq ≤ k) ∧ Aside0 (Kd.V (Kd.int .u8) 5 wc w.heap.size (fun k_ => (P1_ k_ ∨ w.heap.size ≤ k_) ∧ k_ ≠ gb396 ∧ k_ ≠ gb408) u409002 x409002_12) ∧ Aside0 (wc.heap[gb396]? = some (.cells #[.int .i64 x397000_12, .int .i64 x397001_12, (.slice none 0 0), .int .i64 x397003_12, .int .i64 x397004_12] 30 (0, 0))) ∧ Aside0 (wc.heap[gb408]? = some (.cells #[.int .i64 x409000_12, .int .i64 x409001_12, u409002, .int .i64 x409003_12, .int .i64 x409004_12] 30 (0, 0))) ∧ Aside0 (Below w.heap.size w wc))
      case first =>
       have H := HC13.out; clear HC13; by_cases c17 : t405 = 2
       ·rw [if_pos c17] at H
        have c17b0 : (t405 == 2) = true := beq_iff_eq.mpr c17
        have c17b1 : (t405 != 2) = false := bne_eq_false_iff_eq.mpr c17
        clear c17; (first | rw [c17b0] | (simp only [i64_w, i32_w]; rw [c17b0]) | skip)
        obtain ⟨ji18, hji18⟩ : ∃ j_ : Int, (wrap64 (t398 + t406)) = j_ := ⟨_, rfl⟩
        replace H : (if 0 ≤ (ji18) then (if (ji18) ≤ (l1.length : Int) then ((repriseref1_Read.f k (l1.drop ((ji18) : Int).toNat)).bind fun bt414 => (if bt414.2.2 = 0 then (if 0 ≤ (wrap64 ((ji18) + bt414.2.1)) then (if (wrap64 ((ji18) + bt414.2.1)) ≤ (l1.length : Int) then ((repriseref1_Read.f k (l1.drop ((wrap64 ((ji18) + bt414.2.1)) : Int).toNat)).bind fun bt422 => (if bt422.2.2 = 0 then (repriseref23_Read.j0 k a0 t397 (wrap64 ((wrap64 ((ji18) + bt414.2.1)) + bt422.2.1)) 0 2 ([] : List Int) (wrap64 (mn bt414.1 2000)) (wrap64 (mn bt422.1 2000))) else (some (0, 0, ([] : List Int), 0, 0, 0, bt422.2.2)))) else (none)) else (none)) else (some (0, 0, ([] : List Int), 0, 0, 0, bt414.2.2)))) else (none)) else (none)) = some (r1, r2, r3, r4, r5, r6, r7) := by first | (rw [hji18] at H; exact H) | (simp only [hji18] at H ⊢; exact H)
        have hji18w : (IntKind.i64.wrap (t398 + t406)) = ji18 := (i64_w _).trans hji18
        by_cases c19 : 0 ≤ (ji18)
        ·rw [if_pos c19] at H
         have c19b0 := eq_true c19; have c19b1 : decide (0 ≤ (ji18)) = true := decide_eq_true c19
         clear c19; by_cases c20 : (ji18) ≤ (l1.length : Int)
         ·rw [if_pos c20] at H
          have c20b0 := eq_true c20; have c20b1 : decide ((ji18) ≤ (l1.length : Int)) = true := decide_eq_true c20
          clear c20; obtain ⟨y409, hy409⟩ : ∃ y_ : List Int, y_ = (l1.drop ((ji18) : Int).toNat) := ⟨_, rfl⟩
          replace H : ((repriseref1_Read.f k y409).bind fun bt414 => (if bt414.2.2 = 0 then (if 0 ≤ (wrap64 ((ji18) + bt414.2.1)) then (if (wrap64 ((ji18) + bt414.2.1)) ≤ (l1.length : Int) then ((repriseref1_Read.f k (l1.drop ((wrap64 ((ji18) + bt414.2.1)) : Int).toNat)).bind fun bt422 => (if bt422.2.2 = 0 then (repriseref23_Read.j0 k a0 t397 (wrap64 ((wrap64 ((ji18) + bt414.2.1)) + bt422.2.1)) 0 2 ([] : List Int) (wrap64 (mn bt414.1 2000)) (wrap64 (mn bt422.1 2000))) else (some (0, 0, ([] : List Int), 0, 0, 0, bt422.2.2)))) else (none)) else (none)) else (some (0, 0, ([] : List Int), 0, 0, 0, bt414.2.2)))) = some (r1, r2, r3, r4, r5, r6, r7) := by first | (rw [hy409]; with_reducible exact H) | (have H2_ := (Option.bind_some _ _).symm.trans H; rw [hy409]; with_reducible exact H2_) | (have H2_ := (Option.bind_some _ _).symm.trans H; with_reducible exact H2_) | with_reducible exact H | (rw [hy409]; exact H) | exact H
          have Ny409 := Aside0.mk hy409; clear hy409; replace H := Option.bind_eq_some_iff.mp H; obtain ⟨⟨t414, t415, t416⟩, A210, H⟩ := H; replace H : (if t416 = 0 then (if 0 ≤ (wrap64 ((ji18) + t415)) then (if (wrap64 ((ji18) + t415)) ≤ (l1.length : Int) then ((repriseref1_Read.f k (l1.drop ((wrap64 ((ji18) + t415)) : Int).toNat)).bind fun bt422 => (if bt422.2.2 = 0 then (repriseref23_Read.j0 k a0 t397 (wrap64 ((wrap64 ((ji18) + t415)) + bt422.2.1)) 0 2 ([] : List Int) (wrap64 (mn t414 2000)) (wrap64 (mn bt422.1 2000))) else (some (0, 0, ([] : List Int), 0, 0, 0, bt422.2.2)))) else (none)) else (none)) else (some (0, 0, ([] : List Int), 0, 0, 0, t416))) = some (r1, r2, r3, r4, r5, r6, r7) := H
          have A21 := Aside0.mk A210; clear A210; by_cases c22 : t416 = 0
          ·rw [if_pos c22] at H
           have c22b0 : (t416 == 0) = true := beq_iff_eq.mpr c22
           have c22b1 : (t416 != 0) = false := bne_eq_false_iff_eq.mpr c22
           clear c22; obtain ⟨ji23, hji23⟩ : ∃ j_ : Int, (wrap64 ((ji18) + t415)) = j_ := ⟨_, rfl⟩
           replace H : (if 0 ≤ (ji23) then (if (ji23) ≤ (l1.length : Int) then ((repriseref1_Read.f k (l1.drop ((ji23) : Int).toNat)).bind fun bt422 => (if bt422.2.2 = 0 then (repriseref23_Read.j0 k a0 t397 (wrap64 ((ji23) + bt422.2.1)) 0 2 ([] : List Int) (wrap64 (mn t414 2000)) (wrap64 (mn bt422.1 2000))) else (some (0, 0, ([] : List Int), 0, 0, 0, bt422.2.2)))) else (none)) else (none)) = some (r1, r2, r3, r4, r5, r6, r7) := by first | (rw [hji23] at H; exact H) | (simp only [hji23] at H ⊢; exact H)
           (try rw [hji23] at A21)
           have hji23w : (IntKind.i64.wrap ((ji18) + t415)) = ji23 := (i64_w _).trans hji23
           by_cases c24 : 0 ≤ (ji23)
           ·rw [if_pos c24] at H
            have c24b0 := eq_true c24; have c24b1 : decide (0 ≤ (ji23)) = true := decide_eq_true c24
            clear c24; by_cases c25 : (ji23) ≤ (l1.length : Int)
            ·rw [if_pos c25] at H
             have c25b0 := eq_true c25; have c25b1 : decide ((ji23) ≤ (l1.length : Int)) = true := decide_eq_true c25
             clear c25; obtain ⟨y417, hy417⟩ : ∃ y_ : List Int, y_ = (l1.drop ((ji23) : Int).toNat) := ⟨_, rfl⟩
             replace H : ((repriseref1_Read.f k y417).bind fun bt422 => (if bt422.2.2 = 0 then (repriseref23_Read.j0 k a0 t397 (wrap64 ((ji23) + bt422.2.1)) 0 2 ([] : List Int) (wrap64 (mn t414 2000)) (wrap64 (mn bt422.1 2000))) else (some (0, 0, ([] : List Int), 0, 0, 0, bt422.2.2)))) = some (r1, r2, r3, r4, r5, r6, r7) := by first | (rw [hy417]; with_reducible exact H) | (have H2_ := (Option.bind_some _ _).symm.trans H; rw [hy417]; with_reducible exact H2_) | (have H2_ := (Option.bind_some _ _).symm.trans H; with_reducible exact H2_) | with_reducible exact H | (rw [hy417]; exact H) | exact H
             have Ny417 := Aside0.mk hy417; clear hy417; replace H := Option.bind_eq_some_iff.mp H; obtain ⟨⟨t422, t423, t424⟩, A260, H⟩ := H; replace H : (if t424 = 0 then (repriseref23_Read.j0 k a0 t397 (wrap64 ((ji23) + t423)) 0 2 ([] : List Int) (wrap64 (mn t414 2000)) (wrap64 (mn t422 2000))) else (some (0, 0, ([] : List Int), 0, 0, 0, t424))) = some (r1, r2, r3, r4, r5, r6, r7) := H
             have A26 := Aside0.mk A260; clear A260; by_cases c27 : t424 = 0
             ·rw [if_pos c27] at H
              have c27b0 : (t424 == 0) = true := beq_iff_eq.mpr c27
              have c27b1 : (t424 != 0) = false := bne_eq_false_iff_eq.mpr c27
              clear c27; obtain ⟨ji28, hji28⟩ : ∃ j_ : Int, (mn t414 2000) = j_ := ⟨_, rfl⟩
              replace H : (repriseref23_Read.j0 k a0 t397 (wrap64 ((ji23) + t423)) 0 2 ([] : List Int) (wrap64 (ji28)) (wrap64 (mn t422 2000))) = some (r1, r2, r3, r4, r5, r6, r7) := by first | (rw [hji28] at H; exact H) | (simp only [hji28] at H ⊢; exact H)
              (try rw [hji28] at A21)
              (try rw [hji28] at A26)
              (try (have hji28h : ji28 ≤ 2000 := by (rw [← hji28]; unfold mn; (repeat' split) <;> omega)))
              (try (have hji28g : ji28 ≤ 64 := by omega))
              have hji28_ : (if 2000 < t414 then 2000 else t414) = ji28 := hji28
              obtain ⟨ji29, hji29⟩ : ∃ j_ : Int, (mn t422 2000) = j_ := ⟨_, rfl⟩
              replace H : (repriseref23_Read.j0 k a0 t397 (wrap64 ((ji23) + t423)) 0 2 ([] : List Int) (wrap64 (ji28)) (wrap64 (ji29))) = some (r1, r2, r3, r4, r5, r6, r7) := by first | (rw [hji29] at H; exact H) | (simp only [hji29] at H ⊢; exact H)
              (try rw [hji29] at A21)
              (try rw [hji29] at A26)
              (try (have hji29h : ji29 ≤ 2000 := by (rw [← hji29]; unfold mn; (repeat' split) <;> omega)))
              (try (have hji29g : ji29 ≤ 64 := by omega))
              have hji29_ : (if 2000 < t422 then 2000 else t422) = ji29 := hji29
              have H' := Aside0.mk H; clear H; have q30 : ((ji18) : Int) ≤ ((l1.length : Int) : Int) := of_decide_eq_true (by first | (with_reducible assumption) | assumption)
              obtain ⟨i030, hi030, _, hsz30, _⟩ := info_parts info5; have hroom30 : l1.length ≤ c1 := (Kd.V_reads' HO1.out).2.1
              have hC30 : Kd.F (Kd.int .u8) _ _ A1 l1.length l1 := (Kd.V_at (base := w.heap.size) HO1.out).2.2
              have q030 : (0 : Int) ≤ ((ji18) : Int) := of_decide_eq_true (by first | (with_reducible assumption) | assumption)
              have hcut30 := cut_from (P := Try.prog) 22 5 .i64 Try.underlying22 hi030 1 hsz30 A1 l1.length c1 (ji18) q030 q30
              have hr30 := Kd.F_cut (m := ((ji18) : Int).toNat) (c := c1) hC30 (by omega) hroom30
              obtain ⟨A30, hA30⟩ : ∃ Az_, Az_ = (if c1 = ((ji18) : Int).toNat then A1 else (A1 : Option Addr).map (·.add (((ji18) : Int).toNat * 1))) := ⟨_, rfl⟩
              obtain ⟨c30, hc30⟩ : ∃ cz_, cz_ = c1 - ((ji18) : Int).toNat := ⟨_, rfl⟩
              have hy30 : y409.length = l1.length - ((ji18) : Int).toNat := (by rw [Ny409.out, List.length_drop] <;> omega)
              rw [show (l1).drop ((ji18) : Int).toNat = y409 from Ny409.out.symm] at hr30
              replace hr30 : Kd.F (Kd.int .u8) _ _ A30 y409.length y409 := (by rw [hA30]; exact hr30)
              rw [← hy30, ← hA30, ← hc30] at hcut30
              have HO413 := Aside0.mk (show Kd.V (Kd.int .u8) 5 _ w.heap.size _ (.slice A30 y409.length c30) y409 from Kd.V_mk (by rw [hy30, hc30]; exact Nat.sub_le_sub_right hroom30 _) hr30)
              have HC413 := Aside0.mk (show y409.length ≤ c30 from by rw [hy30, hc30]; exact Nat.sub_le_sub_right hroom30 _)
              clear hr30 hC30 hroom30 hi030 hsz30 hc30; have KY30 := Aside0.mk hy30; have KA30 := Aside0.mk hA30; clear hy30 hA30; replace q30 := eq_true q30; go_wp2_with (first | ((with_reducible refine gate_callee (f := 38) rfl ?_); refine goesL_ (some 55) rfl rfl Try.func38 (by kernel_rfl) rfl #[.slice A30 y409.length c30] rfl (by (try simp only [List.map_toArray, List.map_cons, List.map_nil]); first | done | rfl | (simp only [List.length_drop, List.length_take]; rfl)) ?_; (with_reducible refine (repriseref1_Read.calls k _ _ y409 t414 t415 t416 _ ?side1 ?side2 A21.out).mono ?_); (case side1 => repeat (first | exact (Kd.V_reads' HO413.out).2.2 | (with_reducible refine Kd.C_alloc ?_ _) | (with_reducible refine Kd.C_drewN ?_ _) | (with_reducible refine Kd.C_drew ?_))); (case side2 => exact (Kd.V_reads' HO413.out).2.1); rintro e w' ⟨rfl, ⟨nd, rfl⟩⟩; refine ⟨_, rfl, ?_⟩; (try (rw [drewN_self w16]; generalize hq_ : World.drewN w16 _ = w16; have n0_ : Aside0 (Kd.V (Kd.int .u8) 5 w16 w.heap.size (fun k_ => (P1_ k_ ∨ w.heap.size ≤ k_) ∧ k_ ≠ gb396 ∧ k_ ≠ gb408) (.slice A1 l1.length c1) l1) := ⟨by rw [← hq_]; exact (by (with_reducible repeat (first | apply Kd.V_alloc | apply Kd.V_drewN | apply Kd.V_drew)); exact Kd.V_mono HO1.out (fun _ hk => ⟨hk.1.1, ⟨hk.1.2, hk.2⟩⟩))⟩; have n1_ : Aside0 (Kd.V (Kd.int .u8) 5 w16 w.heap.size (fun k_ => (P1_ k_ ∨ w.heap.size ≤ k_) ∧ k_ ≠ gb396 ∧ k_ ≠ gb408) (.slice A15 y400.length c15) y400) := ⟨by rw [← hq_]; exact (by (with_reducible repeat (first | apply Kd.V_alloc | apply Kd.V_drewN | apply Kd.V_drew)); exact Kd.V_mono HO404.out (fun _ hk => ⟨hk.1.1, ⟨hk.1.2, hk.2⟩⟩))⟩; have n2_ : Aside0 (Kd.V (Kd.int .u8) 5 w16 w.heap.size (fun k_ => (P1_ k_ ∨ w.heap.size ≤ k_) ∧ k_ ≠ gb396 ∧ k_ ≠ gb408) (.slice A30 y409.length c30) y409) := ⟨by rw [← hq_]; exact (by (with_reducible repeat (first | apply Kd.V_alloc | apply Kd.V_drewN | apply Kd.V_drew)); exact Kd.V_mono HO413.out (fun _ hk => ⟨hk.1.1, ⟨hk.1.2, hk.2⟩⟩))⟩; have n3_ : Aside0 (w16.heap[gb396]? = some (.cells #[.int .i64 0, .int .i64 0, .slice none 0 0, .int .i64 0, .int .i64 0] 30 (0, 0))) := ⟨by rw [← hq_]; exact (by (with_reducible repeat (first | refine blk_drewN ?_ _ | refine blk_drew ?_ | refine blk_alloc ?_ _)); exact BK396.out)⟩; have n4_ : Aside0 (w16.heap[gb408]? = some (.cells #[.int .i64 0, .int .i64 0, .slice none 0 0, .int .i64 0, .int .i64 0] 30 (0, 0))) := ⟨by rw [← hq_]; exact (by (with_reducible repeat (first | refine blk_drewN ?_ _ | refine blk_drew ?_ | refine blk_alloc ?_ _)); exact BK408.out)⟩; have n5_ : Aside0 (Below w.heap.size w w16) := ⟨by rw [← hq_]; exact (by repeat (first | (with_reducible first | exact HB.out | apply below_alloc | apply pw_below_drewN | apply below_drew1 | refine below_set ?_ GE396.out | refine below_set ?_ GE408.out) | exact HB.out))⟩; clear HO1 HO404 HO413 BK396 BK408 HB hq_; have HO1 := n0_; have HO404 := n1_; have HO413 := n2_; have BK396 := n3_; have BK408 := n4_; have HB := n5_; clear n0_ n1_ n2_ n3_ n4_ n5_)); have q31 : ((ji23) : Int) ≤ ((l1.length : Int) : Int) := of_decide_eq_true (by first | (with_reducible assumption) | assumption); obtain ⟨i031, hi031, _, hsz31, _⟩ := info_parts info5; have hroom31 : l1.length ≤ c1 := (Kd.V_reads' HO1.out).2.1; have hC31 : Kd.F (Kd.int .u8) _ _ A1 l1.length l1 := (Kd.V_at (base := w.heap.size) HO1.out).2.2; have q031 : (0 : Int) ≤ ((ji23) : Int) := of_decide_eq_true (by first | (with_reducible assumption) | assumption); have hcut31 := cut_from (P := Try.prog) 22 5 .i64 Try.underlying22 hi031 1 hsz31 A1 l1.length c1 (ji23) q031 q31; have hr31 := Kd.F_cut (m := ((ji23) : Int).toNat) (c := c1) hC31 (by omega) hroom31; obtain ⟨A31, hA31⟩ : ∃ Az_, Az_ = (if c1 = ((ji23) : Int).toNat then A1 else (A1 : Option Addr).map (·.add (((ji23) : Int).toNat * 1))) := ⟨_, rfl⟩; obtain ⟨c31, hc31⟩ : ∃ cz_, cz_ = c1 - ((ji23) : Int).toNat := ⟨_, rfl⟩; have hy31 : y417.length = l1.length - ((ji23) : Int).toNat := (by rw [Ny417.out, List.length_drop] <;> omega); rw [show (l1).drop ((ji23) : Int).toNat = y417 from Ny417.out.symm] at hr31; replace hr31 : Kd.F (Kd.int .u8) _ _ A31 y417.length y417 := (by rw [hA31]; exact hr31); rw [← hy31, ← hA31, ← hc31] at hcut31; have HO421 := Aside0.mk (show Kd.V (Kd.int .u8) 5 _ w.heap.size _ (.slice A31 y417.length c31) y417 from Kd.V_mk (by rw [hy31, hc31]; exact Nat.sub_le_sub_right hroom31 _) hr31); have HC421 := Aside0.mk (show y417.length ≤ c31 from by rw [hy31, hc31]; exact Nat.sub_le_sub_right hroom31 _); clear hr31 hC31 hroom31 hi031 hsz31 hc31; have KY31 := Aside0.mk hy31; have KA31 := Aside0.mk hA31; clear hy31 hA31; replace q31 := eq_true q31) | ((with_reducible refine gate_callee (f := 38) rfl ?_); refine goesL_ (some 70) rfl rfl Try.func38 (by kernel_rfl) rfl #[.slice A31 y417.length c31] rfl (by (try simp only [List.map_toArray, List.map_cons, List.map_nil]); first | done | rfl | (simp only [List.length_drop, List.length_take]; rfl)) ?_; (with_reducible refine (repriseref1_Read.calls k _ _ y417 t422 t423 t424 _ ?side1 ?side2 A26.out).mono ?_); (case side1 => repeat (first | exact (Kd.V_reads' HO421.out).2.2 | (with_reducible refine Kd.C_alloc ?_ _) | (with_reducible refine Kd.C_drewN ?_ _) | (with_reducible refine Kd.C_drew ?_))); (case side2 => exact (Kd.V_reads' HO421.out).2.1); rintro e w' ⟨rfl, ⟨nd, rfl⟩⟩; refine ⟨_, rfl, ?_⟩; (try (rw [drewN_self w16]; generalize hq_ : World.drewN w16 _ = w16; have n0_ : Aside0 (Kd.V (Kd.int .u8) 5 w16 w.heap.size (fun k_ => (P1_ k_ ∨ w.heap.size ≤ k_) ∧ k_ ≠ gb396 ∧ k_ ≠ gb408) (.slice A1 l1.length c1) l1) := ⟨by rw [← hq_]; exact (by (with_reducible repeat (first | apply Kd.V_alloc | apply Kd.V_drewN | apply Kd.V_drew)); exact Kd.V_mono HO1.out (fun _ hk => ⟨hk.1.1, ⟨hk.1.2, hk.2⟩⟩))⟩; have n1_ : Aside0 (Kd.V (Kd.int .u8) 5 w16 w.heap.size (fun k_ => (P1_ k_ ∨ w.heap.size ≤ k_) ∧ k_ ≠ gb396 ∧ k_ ≠ gb408) (.slice A15 y400.length c15) y400) := ⟨by rw [← hq_]; exact (by (with_reducible repeat (first | apply Kd.V_alloc | apply Kd.V_drewN | apply Kd.V_drew)); exact Kd.V_mono HO404.out (fun _ hk => ⟨hk.1.1, ⟨hk.1.2, hk.2⟩⟩))⟩; have n2_ : Aside0 (Kd.V (Kd.int .u8) 5 w16 w.heap.size (fun k_ => (P1_ k_ ∨ w.heap.size ≤ k_) ∧ k_ ≠ gb396 ∧ k_ ≠ gb408) (.slice A30 y409.length c30) y409) := ⟨by rw [← hq_]; exact (by (with_reducible repeat (first | apply Kd.V_alloc | apply Kd.V_drewN | apply Kd.V_drew)); exact Kd.V_mono HO413.out (fun _ hk => ⟨hk.1.1, ⟨hk.1.2, hk.2⟩⟩))⟩; have n3_ : Aside0 (Kd.V (Kd.int .u8) 5 w16 w.heap.size (fun k_ => (P1_ k_ ∨ w.heap.size ≤ k_) ∧ k_ ≠ gb396 ∧ k_ ≠ gb408) (.slice A31 y417.length c31) y417) := ⟨by rw [← hq_]; exact (by (with_reducible repeat (first | apply Kd.V_alloc | apply Kd.V_drewN | apply Kd.V_drew)); exact Kd.V_mono HO421.out (fun _ hk => ⟨hk.1.1, ⟨hk.1.2, hk.2⟩⟩))⟩; have n4_ : Aside0 (w16.heap[gb396]? = some (.cells #[.int .i64 0, .int .i64 0, .slice none 0 0, .int .i64 0, .int .i64 0] 30 (0, 0))) := ⟨by rw [← hq_]; exact (by (with_reducible repeat (first | refine blk_drewN ?_ _ | refine blk_drew ?_ | refine blk_alloc ?_ _)); exact BK396.out)⟩; have n5_ : Aside0 (w16.heap[gb408]? = some (.cells #[.int .i64 0, .int .i64 0, .slice none 0 0, .int .i64 0, .int .i64 0] 30 (0, 0))) := ⟨by rw [← hq_]; exact (by (with_reducible repeat (first | refine blk_drewN ?_ _ | refine blk_drew ?_ | refine blk_alloc ?_ _)); exact BK408.out)⟩; have n6_ : Aside0 (Below w.heap.size w w16) := ⟨by rw [← hq_]; exact (by repeat (first | (with_reducible first | exact HB.out | apply below_alloc | apply pw_below_drewN | apply below_drew1 | refine below_set ?_ GE396.out | refine below_set ?_ GE408.out) | exact HB.out))⟩; clear HO1 HO404 HO413 HO421 BK396 BK408 HB hq_; have HO1 := n0_; have HO404 := n1_; have HO413 := n2_; have HO421 := n3_; have BK396 := n4_; have BK408 := n5_; have HB := n6_; clear n0_ n1_ n2_ n3_ n4_ n5_ n6_)); have hnb32 := NB408_396.out; have hnc32 := NB396_408.out; have hcz33_0 : w16.cell? ⟨gb408, 0, none⟩ = some (.int .i64 0) := (blk_cell BK408.out 0).trans rfl; have hcz33_1 : w16.cell? ⟨gb408, 1, none⟩ = some (.int .i64 0) := (blk_cell BK408.out 1).trans rfl; have hcz33_2 : w16.cell? ⟨gb408, 2, none⟩ = some (.slice none 0 0) := (blk_cell BK408.out 2).trans rfl; have hcz33_3 : w16.cell? ⟨gb408, 3, none⟩ = some (.int .i64 0) := (blk_cell BK408.out 3).trans rfl; have hcz33_4 : w16.cell? ⟨gb408, 4, none⟩ = some (.int .i64 0) := (blk_cell BK408.out 4).trans rfl; have hfz33_0 := blk_frozen BK408.out 0; have hfz33_1 := blk_frozen BK408.out 1; have hfz33_2 := blk_frozen BK408.out 2; have hfz33_3 := blk_frozen BK408.out 3; have hfz33_4 := blk_frozen BK408.out 4))
              go_meet
              case rel => exact ⟨_, (wrap64 ((ji23) + t423)), (0), (0), (0), (0), (0), (2), (([] : List Int)), (wrap64 (ji28)), (wrap64 (ji29)), (.slice none 0 0), (by first | rfl | (simp; done) | (simp only [← hji23] <;> (first | rfl | simp)) | (simp [*]; done)), H', ⟨by first | omega | exact Nat.le_refl _⟩, ⟨Kd.V_mono (Kd.R_V (Kd.R_nil _ _ _ 0 (fun _ => False))) (fun _ hk => hk.elim)⟩, ⟨by (with_reducible repeat (first | refine blk_drewN ?_ _ | refine blk_drew ?_ | refine blk_alloc ?_ _)); refine blk_far ?_ NB396_408.out _; (with_reducible repeat (first | refine blk_drewN ?_ _ | refine blk_drew ?_ | refine blk_alloc ?_ _)); refine blk_far ?_ NB396_408.out _; (with_reducible repeat (first | refine blk_drewN ?_ _ | refine blk_drew ?_ | refine blk_alloc ?_ _)); refine blk_far ?_ NB396_408.out _; (with_reducible repeat (first | refine blk_drewN ?_ _ | refine blk_drew ?_ | refine blk_alloc ?_ _)); refine blk_far ?_ NB396_408.out _; (with_reducible repeat (first | refine blk_drewN ?_ _ | refine blk_drew ?_ | refine blk_alloc ?_ _)); refine blk_far ?_ NB396_408.out _; (with_reducible repeat (first | refine blk_drewN ?_ _ | refine blk_drew ?_ | refine blk_alloc ?_ _)); exact BK396.out⟩, ⟨by (with_reducible repeat (first | refine blk_drewN ?_ _ | refine blk_drew ?_ | refine blk_alloc ?_ _)); refine blk_put (cs := #[.int .i64 0, .int .i64 2, .slice none 0 0, .int .i64 (wrap64 (ji28)), .int .i64 0]) ?_ 4 _ rfl; (with_reducible repeat (first | refine blk_drewN ?_ _ | refine blk_drew ?_ | refine blk_alloc ?_ _)); refine blk_put (cs := #[.int .i64 0, .int .i64 2, .slice none 0 0, .int .i64 0, .int .i64 0]) ?_ 3 _ rfl; (with_reducible repeat (first | refine blk_drewN ?_ _ | refine blk_drew ?_ | refine blk_alloc ?_ _)); refine blk_put (cs := #[.int .i64 0, .int .i64 2, .slice none 0 0, .int .i64 0, .int .i64 0]) ?_ 2 _ rfl; (with_reducible repeat (first | refine blk_drewN ?_ _ | refine blk_drew ?_ | refine blk_alloc ?_ _)); refine blk_put (cs := #[.int .i64 0, .int .i64 0, .slice none 0 0, .int .i64 0, .int .i64 0]) ?_ 1 _ rfl; (with_reducible repeat (first | refine blk_drewN ?_ _ | refine blk_drew ?_ | refine blk_alloc ?_ _)); refine blk_put (cs := #[.int .i64 0, .int .i64 0, .slice none 0 0, .int .i64 0, .int .i64 0]) ?_ 0 _ rfl; (with_reducible repeat (first | refine blk_drewN ?_ _ | refine blk_drew ?_ | refine blk_alloc ?_ _)); exact BK408.out⟩, ⟨by repeat (first | (with_reducible first | exact HB.out | apply below_alloc | apply pw_below_drewN | apply below_drew1 | refine below_set ?_ GE396.out | refine below_set ?_ GE408.out) | exact HB.out)⟩⟩
             ·rw [if_neg c27] at H
              have c27b0 : (t424 == 0) = false := beq_eq_false_iff_ne.mpr c27
              have c27b1 : (t424 != 0) = true := bne_iff_ne.mpr c27
              simp only [Option.some.injEq, Prod.mk.injEq] at H
              obtain ⟨rfl, rfl, rfl, rfl, rfl, rfl, rfl⟩ := H; have q34 : ((ji18) : Int) ≤ ((l1.length : Int) : Int) := of_decide_eq_true (by first | (with_reducible assumption) | assumption)
              obtain ⟨i034, hi034, _, hsz34, _⟩ := info_parts info5; have hroom34 : l1.length ≤ c1 := (Kd.V_reads' HO1.out).2.1
              have hC34 : Kd.F (Kd.int .u8) _ _ A1 l1.length l1 := (Kd.V_at (base := w.heap.size) HO1.out).2.2
              have q034 : (0 : Int) ≤ ((ji18) : Int) := of_decide_eq_true (by first | (with_reducible assumption) | assumption)
              have hcut34 := cut_from (P := Try.prog) 22 5 .i64 Try.underlying22 hi034 1 hsz34 A1 l1.length c1 (ji18) q034 q34
              have hr34 := Kd.F_cut (m := ((ji18) : Int).toNat) (c := c1) hC34 (by omega) hroom34
              obtain ⟨A34, hA34⟩ : ∃ Az_, Az_ = (if c1 = ((ji18) : Int).toNat then A1 else (A1 : Option Addr).map (·.add (((ji18) : Int).toNat * 1))) := ⟨_, rfl⟩
              obtain ⟨c34, hc34⟩ : ∃ cz_, cz_ = c1 - ((ji18) : Int).toNat := ⟨_, rfl⟩
              have hy34 : y409.length = l1.length - ((ji18) : Int).toNat := (by rw [Ny409.out, List.length_drop] <;> omega)
              rw [show (l1).drop ((ji18) : Int).toNat = y409 from Ny409.out.symm] at hr34
              replace hr34 : Kd.F (Kd.int .u8) _ _ A34 y409.length y409 := (by rw [hA34]; exact hr34)
              rw [← hy34, ← hA34, ← hc34] at hcut34
              have HO413 := Aside0.mk (show Kd.V (Kd.int .u8) 5 _ w.heap.size _ (.slice A34 y409.length c34) y409 from Kd.V_mk (by rw [hy34, hc34]; exact Nat.sub_le_sub_right hroom34 _) hr34)
              have HC413 := Aside0.mk (show y409.length ≤ c34 from by rw [hy34, hc34]; exact Nat.sub_le_sub_right hroom34 _)
              clear hr34 hC34 hroom34 hi034 hsz34 hc34; have KY34 := Aside0.mk hy34; have KA34 := Aside0.mk hA34; clear hy34 hA34; replace q34 := eq_true q34; go_wp2_with (first | ((with_reducible refine gate_callee (f := 38) rfl ?_); refine goesL_ (some 55) rfl rfl Try.func38 (by kernel_rfl) rfl #[.slice A34 y409.length c34] rfl (by (try simp only [List.map_toArray, List.map_cons, List.map_nil]); first | done | rfl | (simp only [List.length_drop, List.length_take]; rfl)) ?_; (with_reducible refine (repriseref1_Read.calls k _ _ y409 t414 t415 t416 _ ?side1 ?side2 A21.out).mono ?_); (case side1 => repeat (first | exact (Kd.V_reads' HO413.out).2.2 | (with_reducible refine Kd.C_alloc ?_ _) | (with_reducible refine Kd.C_drewN ?_ _) | (with_reducible refine Kd.C_drew ?_))); (case side2 => exact (Kd.V_reads' HO413.out).2.1); rintro e w' ⟨rfl, ⟨nd, rfl⟩⟩; refine ⟨_, rfl, ?_⟩; (try (rw [drewN_self w16]; generalize hq_ : World.drewN w16 _ = w16; have n0_ : Aside0 (Kd.V (Kd.int .u8) 5 w16 w.heap.size (fun k_ => (P1_ k_ ∨ w.heap.size ≤ k_) ∧ k_ ≠ gb396 ∧ k_ ≠ gb408) (.slice A1 l1.length c1) l1) := ⟨by rw [← hq_]; exact (by (with_reducible repeat (first | apply Kd.V_alloc | apply Kd.V_drewN | apply Kd.V_drew)); exact Kd.V_mono HO1.out (fun _ hk => ⟨hk.1.1, ⟨hk.1.2, hk.2⟩⟩))⟩; have n1_ : Aside0 (Kd.V (Kd.int .u8) 5 w16 w.heap.size (fun k_ => (P1_ k_ ∨ w.heap.size ≤ k_) ∧ k_ ≠ gb396 ∧ k_ ≠ gb408) (.slice A15 y400.length c15) y400) := ⟨by rw [← hq_]; exact (by (with_reducible repeat (first | apply Kd.V_alloc | apply Kd.V_drewN | apply Kd.V_drew)); exact Kd.V_mono HO404.out (fun _ hk => ⟨hk.1.1, ⟨hk.1.2, hk.2⟩⟩))⟩; have n2_ : Aside0 (Kd.V (Kd.int .u8) 5 w16 w.heap.size (fun k_ => (P1_ k_ ∨ w.heap.size ≤ k_) ∧ k_ ≠ gb396 ∧ k_ ≠ gb408) (.slice A34 y409.length c34) y409) := ⟨by rw [← hq_]; exact (by (with_reducible repeat (first | apply Kd.V_alloc | apply Kd.V_drewN | apply Kd.V_drew)); exact Kd.V_mono HO413.out (fun _ hk => ⟨hk.1.1, ⟨hk.1.2, hk.2⟩⟩))⟩; have n3_ : Aside0 (w16.heap[gb396]? = some (.cells #[.int .i64 0, .int .i64 0, .slice none 0 0, .int .i64 0, .int .i64 0] 30 (0, 0))) := ⟨by rw [← hq_]; exact (by (with_reducible repeat (first | refine blk_drewN ?_ _ | refine blk_drew ?_ | refine blk_alloc ?_ _)); exact BK396.out)⟩; have n4_ : Aside0 (w16.heap[gb408]? = some (.cells #[.int .i64 0, .int .i64 0, .slice none 0 0, .int .i64 0, .int .i64 0] 30 (0, 0))) := ⟨by rw [← hq_]; exact (by (with_reducible repeat (first | refine blk_drewN ?_ _ | refine blk_drew ?_ | refine blk_alloc ?_ _)); exact BK408.out)⟩; have n5_ : Aside0 (Below w.heap.size w w16) := ⟨by rw [← hq_]; exact (by repeat (first | (with_reducible first | exact HB.out | apply below_alloc | apply pw_below_drewN | apply below_drew1 | refine below_set ?_ GE396.out | refine below_set ?_ GE408.out) | exact HB.out))⟩; clear HO1 HO404 HO413 BK396 BK408 HB hq_; have HO1 := n0_; have HO404 := n1_; have HO413 := n2_; have BK396 := n3_; have BK408 := n4_; have HB := n5_; clear n0_ n1_ n2_ n3_ n4_ n5_)); have q35 : ((ji23) : Int) ≤ ((l1.length : Int) : Int) := of_decide_eq_true (by first | (with_reducible assumption) | assumption); obtain ⟨i035, hi035, _, hsz35, _⟩ := info_parts info5; have hroom35 : l1.length ≤ c1 := (Kd.V_reads' HO1.out).2.1; have hC35 : Kd.F (Kd.int .u8) _ _ A1 l1.length l1 := (Kd.V_at (base := w.heap.size) HO1.out).2.2; have q035 : (0 : Int) ≤ ((ji23) : Int) := of_decide_eq_true (by first | (with_reducible assumption) | assumption); have hcut35 := cut_from (P := Try.prog) 22 5 .i64 Try.underlying22 hi035 1 hsz35 A1 l1.length c1 (ji23) q035 q35; have hr35 := Kd.F_cut (m := ((ji23) : Int).toNat) (c := c1) hC35 (by omega) hroom35; obtain ⟨A35, hA35⟩ : ∃ Az_, Az_ = (if c1 = ((ji23) : Int).toNat then A1 else (A1 : Option Addr).map (·.add (((ji23) : Int).toNat * 1))) := ⟨_, rfl⟩; obtain ⟨c35, hc35⟩ : ∃ cz_, cz_ = c1 - ((ji23) : Int).toNat := ⟨_, rfl⟩; have hy35 : y417.length = l1.length - ((ji23) : Int).toNat := (by rw [Ny417.out, List.length_drop] <;> omega); rw [show (l1).drop ((ji23) : Int).toNat = y417 from Ny417.out.symm] at hr35; replace hr35 : Kd.F (Kd.int .u8) _ _ A35 y417.length y417 := (by rw [hA35]; exact hr35); rw [← hy35, ← hA35, ← hc35] at hcut35; have HO421 := Aside0.mk (show Kd.V (Kd.int .u8) 5 _ w.heap.size _ (.slice A35 y417.length c35) y417 from Kd.V_mk (by rw [hy35, hc35]; exact Nat.sub_le_sub_right hroom35 _) hr35); have HC421 := Aside0.mk (show y417.length ≤ c35 from by rw [hy35, hc35]; exact Nat.sub_le_sub_right hroom35 _); clear hr35 hC35 hroom35 hi035 hsz35 hc35; have KY35 := Aside0.mk hy35; have KA35 := Aside0.mk hA35; clear hy35 hA35; replace q35 := eq_true q35) | ((with_reducible refine gate_callee (f := 38) rfl ?_); refine goesL_ (some 70) rfl rfl Try.func38 (by kernel_rfl) rfl #[.slice A35 y417.length c35] rfl (by (try simp only [List.map_toArray, List.map_cons, List.map_nil]); first | done | rfl | (simp only [List.length_drop, List.length_take]; rfl)) ?_; (with_reducible refine (repriseref1_Read.calls k _ _ y417 t422 t423 t424 _ ?side1 ?side2 A26.out).mono ?_); (case side1 => repeat (first | exact (Kd.V_reads' HO421.out).2.2 | (with_reducible refine Kd.C_alloc ?_ _) | (with_reducible refine Kd.C_drewN ?_ _) | (with_reducible refine Kd.C_drew ?_))); (case side2 => exact (Kd.V_reads' HO421.out).2.1); rintro e w' ⟨rfl, ⟨nd, rfl⟩⟩; refine ⟨_, rfl, ?_⟩; (try (rw [drewN_self w16]; generalize hq_ : World.drewN w16 _ = w16; have n0_ : Aside0 (Kd.V (Kd.int .u8) 5 w16 w.heap.size (fun k_ => (P1_ k_ ∨ w.heap.size ≤ k_) ∧ k_ ≠ gb396 ∧ k_ ≠ gb408) (.slice A1 l1.length c1) l1) := ⟨by rw [← hq_]; exact (by (with_reducible repeat (first | apply Kd.V_alloc | apply Kd.V_drewN | apply Kd.V_drew)); exact Kd.V_mono HO1.out (fun _ hk => ⟨hk.1.1, ⟨hk.1.2, hk.2⟩⟩))⟩; have n1_ : Aside0 (Kd.V (Kd.int .u8) 5 w16 w.heap.size (fun k_ => (P1_ k_ ∨ w.heap.size ≤ k_) ∧ k_ ≠ gb396 ∧ k_ ≠ gb408) (.slice A15 y400.length c15) y400) := ⟨by rw [← hq_]; exact (by (with_reducible repeat (first | apply Kd.V_alloc | apply Kd.V_drewN | apply Kd.V_drew)); exact Kd.V_mono HO404.out (fun _ hk => ⟨hk.1.1, ⟨hk.1.2, hk.2⟩⟩))⟩; have n2_ : Aside0 (Kd.V (Kd.int .u8) 5 w16 w.heap.size (fun k_ => (P1_ k_ ∨ w.heap.size ≤ k_) ∧ k_ ≠ gb396 ∧ k_ ≠ gb408) (.slice A34 y409.length c34) y409) := ⟨by rw [← hq_]; exact (by (with_reducible repeat (first | apply Kd.V_alloc | apply Kd.V_drewN | apply Kd.V_drew)); exact Kd.V_mono HO413.out (fun _ hk => ⟨hk.1.1, ⟨hk.1.2, hk.2⟩⟩))⟩; have n3_ : Aside0 (Kd.V (Kd.int .u8) 5 w16 w.heap.size (fun k_ => (P1_ k_ ∨ w.heap.size ≤ k_) ∧ k_ ≠ gb396 ∧ k_ ≠ gb408) (.slice A35 y417.length c35) y417) := ⟨by rw [← hq_]; exact (by (with_reducible repeat (first | apply Kd.V_alloc | apply Kd.V_drewN | apply Kd.V_drew)); exact Kd.V_mono HO421.out (fun _ hk => ⟨hk.1.1, ⟨hk.1.2, hk.2⟩⟩))⟩; have n4_ : Aside0 (w16.heap[gb396]? = some (.cells #[.int .i64 0, .int .i64 0, .slice none 0 0, .int .i64 0, .int .i64 0] 30 (0, 0))) := ⟨by rw [← hq_]; exact (by (with_reducible repeat (first | refine blk_drewN ?_ _ | refine blk_drew ?_ | refine blk_alloc ?_ _)); exact BK396.out)⟩; have n5_ : Aside0 (w16.heap[gb408]? = some (.cells #[.int .i64 0, .int .i64 0, .slice none 0 0, .int .i64 0, .int .i64 0] 30 (0, 0))) := ⟨by rw [← hq_]; exact (by (with_reducible repeat (first | refine blk_drewN ?_ _ | refine blk_drew ?_ | refine blk_alloc ?_ _)); exact BK408.out)⟩; have n6_ : Aside0 (Below w.heap.size w w16) := ⟨by rw [← hq_]; exact (by repeat (first | (with_reducible first | exact HB.out | apply below_alloc | apply pw_below_drewN | apply below_drew1 | refine below_set ?_ GE396.out | refine below_set ?_ GE408.out) | exact HB.out))⟩; clear HO1 HO404 HO413 HO421 BK396 BK408 HB hq_; have HO1 := n0_; have HO404 := n1_; have HO413 := n2_; have HO421 := n3_; have BK396 := n4_; have BK408 := n5_; have HB := n6_; clear n0_ n1_ n2_ n3_ n4_ n5_ n6_)); have hnb36 := NB396_408.out; have hnc36 := NB408_396.out; have hcz37_0 : w16.cell? ⟨gb396, 0, none⟩ = some (.int .i64 0) := (blk_cell BK396.out 0).trans rfl; have hcz37_1 : w16.cell? ⟨gb396, 1, none⟩ = some (.int .i64 0) := (blk_cell BK396.out 1).trans rfl; have hcz37_2 : w16.cell? ⟨gb396, 2, none⟩ = some (.slice none 0 0) := (blk_cell BK396.out 2).trans rfl; have hcz37_3 : w16.cell? ⟨gb396, 3, none⟩ = some (.int .i64 0) := (blk_cell BK396.out 3).trans rfl; have hcz37_4 : w16.cell? ⟨gb396, 4, none⟩ = some (.int .i64 0) := (blk_cell BK396.out 4).trans rfl; have hfz37_0 := blk_frozen BK396.out 0; have hfz37_1 := blk_frozen BK396.out 1; have hfz37_2 := blk_frozen BK396.out 2; have hfz37_3 := blk_frozen BK396.out 3; have hfz37_4 := blk_frozen BK396.out 4))
              refine bodyPost_ret (results_ctt rfl _ _ gb396 30 #[.int .i64 0, .int .i64 0, .slice none 0 0, .int .i64 0, .int .i64 0] (0, 0) _ rfl (by (with_reducible repeat (first | refine blk_drewN ?_ _ | refine blk_drew ?_ | refine blk_alloc ?_ _)); refine blk_put (cs := #[.int .i64 0, .int .i64 0, .slice none 0 0, .int .i64 0, .int .i64 0]) ?_ 4 _ rfl; (with_reducible repeat (first | refine blk_drewN ?_ _ | refine blk_drew ?_ | refine blk_alloc ?_ _)); refine blk_put (cs := #[.int .i64 0, .int .i64 0, .slice none 0 0, .int .i64 0, .int .i64 0]) ?_ 3 _ rfl; (with_reducible repeat (first | refine blk_drewN ?_ _ | refine blk_drew ?_ | refine blk_alloc ?_ _)); refine blk_put (cs := #[.int .i64 0, .int .i64 0, .slice none 0 0, .int .i64 0, .int .i64 0]) ?_ 2 _ rfl; (with_reducible repeat (first | refine blk_drewN ?_ _ | refine blk_drew ?_ | refine blk_alloc ?_ _)); refine blk_put (cs := #[.int .i64 0, .int .i64 0, .slice none 0 0, .int .i64 0, .int .i64 0]) ?_ 1 _ rfl; (with_reducible repeat (first | refine blk_drewN ?_ _ | refine blk_drew ?_ | refine blk_alloc ?_ _)); refine blk_put (cs := #[.int .i64 0, .int .i64 0, .slice none 0 0, .int .i64 0, .int .i64 0]) ?_ 0 _ rfl; (with_reducible repeat (first | refine blk_drewN ?_ _ | refine blk_drew ?_ | refine blk_alloc ?_ _)); exact BK396.out) Try.underlying30 rfl (by kernel_rfl)) rfl ?_
              exact ⟨_, by first | rfl | (simp [errW_none, errW_some] <;> rfl) | (simp only [← hji18, ← hji23]; first | rfl | (simp [errW_none, errW_some] <;> rfl)) | (simp [*, errW_none, errW_some] <;> rfl), Kd.V_mono (Kd.R_V (Kd.R_nil _ _ _ 0 (fun _ => False))) (fun _ hk => hk.elim), by repeat (first | (with_reducible first | exact HB.out | apply below_alloc | apply pw_below_drewN | apply below_drew1 | refine below_set ?_ GE396.out | refine below_set ?_ GE408.out) | exact HB.out)⟩
            ·rw [if_neg c25] at H
             exact absurd H (by simp)
           ·rw [if_neg c24] at H
            exact absurd H (by simp)
          ·rw [if_neg c22] at H
           have c22b0 : (t416 == 0) = false := beq_eq_false_iff_ne.mpr c22
           have c22b1 : (t416 != 0) = true := bne_iff_ne.mpr c22
           simp only [Option.some.injEq, Prod.mk.injEq] at H
           obtain ⟨rfl, rfl, rfl, rfl, rfl, rfl, rfl⟩ := H; have q38 : ((ji18) : Int) ≤ ((l1.length : Int) : Int) := of_decide_eq_true (by first | (with_reducible assumption) | assumption)
           obtain ⟨i038, hi038, _, hsz38, _⟩ := info_parts info5; have hroom38 : l1.length ≤ c1 := (Kd.V_reads' HO1.out).2.1
           have hC38 : Kd.F (Kd.int .u8) _ _ A1 l1.length l1 := (Kd.V_at (base := w.heap.size) HO1.out).2.2
           have q038 : (0 : Int) ≤ ((ji18) : Int) := of_decide_eq_true (by first | (with_reducible assumption) | assumption)
           have hcut38 := cut_from (P := Try.prog) 22 5 .i64 Try.underlying22 hi038 1 hsz38 A1 l1.length c1 (ji18) q038 q38
           have hr38 := Kd.F_cut (m := ((ji18) : Int).toNat) (c := c1) hC38 (by omega) hroom38
           obtain ⟨A38, hA38⟩ : ∃ Az_, Az_ = (if c1 = ((ji18) : Int).toNat then A1 else (A1 : Option Addr).map (·.add (((ji18) : Int).toNat * 1))) := ⟨_, rfl⟩
           obtain ⟨c38, hc38⟩ : ∃ cz_, cz_ = c1 - ((ji18) : Int).toNat := ⟨_, rfl⟩
           have hy38 : y409.length = l1.length - ((ji18) : Int).toNat := (by rw [Ny409.out, List.length_drop] <;> omega)
           rw [show (l1).drop ((ji18) : Int).toNat = y409 from Ny409.out.symm] at hr38
           replace hr38 : Kd.F (Kd.int .u8) _ _ A38 y409.length y409 := (by rw [hA38]; exact hr38)
           rw [← hy38, ← hA38, ← hc38] at hcut38
           have HO413 := Aside0.mk (show Kd.V (Kd.int .u8) 5 _ w.heap.size _ (.slice A38 y409.length c38) y409 from Kd.V_mk (by rw [hy38, hc38]; exact Nat.sub_le_sub_right hroom38 _) hr38)
           have HC413 := Aside0.mk (show y409.length ≤ c38 from by rw [hy38, hc38]; exact Nat.sub_le_sub_right hroom38 _)
           clear hr38 hC38 hroom38 hi038 hsz38 hc38; have KY38 := Aside0.mk hy38; have KA38 := Aside0.mk hA38; clear hy38 hA38; replace q38 := eq_true q38; go_wp2_with (first | ((with_reducible refine gate_callee (f := 38) rfl ?_); refine goesL_ (some 55) rfl rfl Try.func38 (by kernel_rfl) rfl #[.slice A38 y409.length c38] rfl (by (try simp only [List.map_toArray, List.map_cons, List.map_nil]); first | done | rfl | (simp only [List.length_drop, List.length_take]; rfl)) ?_; (with_reducible refine (repriseref1_Read.calls k _ _ y409 t414 t415 t416 _ ?side1 ?side2 A21.out).mono ?_); (case side1 => repeat (first | exact (Kd.V_reads' HO413.out).2.2 | (with_reducible refine Kd.C_alloc ?_ _) | (with_reducible refine Kd.C_drewN ?_ _) | (with_reducible refine Kd.C_drew ?_))); (case side2 => exact (Kd.V_reads' HO413.out).2.1); rintro e w' ⟨rfl, ⟨nd, rfl⟩⟩; refine ⟨_, rfl, ?_⟩; (try (rw [drewN_self w16]; generalize hq_ : World.drewN w16 _ = w16; have n0_ : Aside0 (Kd.V (Kd.int .u8) 5 w16 w.heap.size (fun k_ => (P1_ k_ ∨ w.heap.size ≤ k_) ∧ k_ ≠ gb396 ∧ k_ ≠ gb408) (.slice A1 l1.length c1) l1) := ⟨by rw [← hq_]; exact (by (with_reducible repeat (first | apply Kd.V_alloc | apply Kd.V_drewN | apply Kd.V_drew)); exact Kd.V_mono HO1.out (fun _ hk => ⟨hk.1.1, ⟨hk.1.2, hk.2⟩⟩))⟩; have n1_ : Aside0 (Kd.V (Kd.int .u8) 5 w16 w.heap.size (fun k_ => (P1_ k_ ∨ w.heap.size ≤ k_) ∧ k_ ≠ gb396 ∧ k_ ≠ gb408) (.slice A15 y400.length c15) y400) := ⟨by rw [← hq_]; exact (by (with_reducible repeat (first | apply Kd.V_alloc | apply Kd.V_drewN | apply Kd.V_drew)); exact Kd.V_mono HO404.out (fun _ hk => ⟨hk.1.1, ⟨hk.1.2, hk.2⟩⟩))⟩; have n2_ : Aside0 (Kd.V (Kd.int .u8) 5 w16 w.heap.size (fun k_ => (P1_ k_ ∨ w.heap.size ≤ k_) ∧ k_ ≠ gb396 ∧ k_ ≠ gb408) (.slice A38 y409.length c38) y409) := ⟨by rw [← hq_]; exact (by (with_reducible repeat (first | apply Kd.V_alloc | apply Kd.V_drewN | apply Kd.V_drew)); exact Kd.V_mono HO413.out (fun _ hk => ⟨hk.1.1, ⟨hk.1.2, hk.2⟩⟩))⟩; have n3_ : Aside0 (w16.heap[gb396]? = some (.cells #[.int .i64 0, .int .i64 0, .slice none 0 0, .int .i64 0, .int .i64 0] 30 (0, 0))) := ⟨by rw [← hq_]; exact (by (with_reducible repeat (first | refine blk_drewN ?_ _ | refine blk_drew ?_ | refine blk_alloc ?_ _)); exact BK396.out)⟩; have n4_ : Aside0 (w16.heap[gb408]? = some (.cells #[.int .i64 0, .int .i64 0, .slice none 0 0, .int .i64 0, .int .i64 0] 30 (0, 0))) := ⟨by rw [← hq_]; exact (by (with_reducible repeat (first | refine blk_drewN ?_ _ | refine blk_drew ?_ | refine blk_alloc ?_ _)); exact BK408.out)⟩; have n5_ : Aside0 (Below w.heap.size w w16) := ⟨by rw [← hq_]; exact (by repeat (first | (with_reducible first | exact HB.out | apply below_alloc | apply pw_below_drewN | apply below_drew1 | refine below_set ?_ GE396.out | refine below_set ?_ GE408.out) | exact HB.out))⟩; clear HO1 HO404 HO413 BK396 BK408 HB hq_; have HO1 := n0_; have HO404 := n1_; have HO413 := n2_; have BK396 := n3_; have BK408 := n4_; have HB := n5_; clear n0_ n1_ n2_ n3_ n4_ n5_)); have hnb39 := NB396_408.out; have hnc39 := NB408_396.out; have hcz40_0 : w16.cell? ⟨gb396, 0, none⟩ = some (.int .i64 0) := (blk_cell BK396.out 0).trans rfl; have hcz40_1 : w16.cell? ⟨gb396, 1, none⟩ = some (.int .i64 0) := (blk_cell BK396.out 1).trans rfl; have hcz40_2 : w16.cell? ⟨gb396, 2, none⟩ = some (.slice none 0 0) := (blk_cell BK396.out 2).trans rfl; have hcz40_3 : w16.cell? ⟨gb396, 3, none⟩ = some (.int .i64 0) := (blk_cell BK396.out 3).trans rfl; have hcz40_4 : w16.cell? ⟨gb396, 4, none⟩ = some (.int .i64 0) := (blk_cell BK396.out 4).trans rfl; have hfz40_0 := blk_frozen BK396.out 0; have hfz40_1 := blk_frozen BK396.out 1; have hfz40_2 := blk_frozen BK396.out 2; have hfz40_3 := blk_frozen BK396.out 3; have hfz40_4 := blk_frozen BK396.out 4))
           refine bodyPost_ret (results_ctt rfl _ _ gb396 30 #[.int .i64 0, .int .i64 0, .slice none 0 0, .int .i64 0, .int .i64 0] (0, 0) _ rfl (by (with_reducible repeat (first | refine blk_drewN ?_ _ | refine blk_drew ?_ | refine blk_alloc ?_ _)); refine blk_put (cs := #[.int .i64 0, .int .i64 0, .slice none 0 0, .int .i64 0, .int .i64 0]) ?_ 4 _ rfl; (with_reducible repeat (first | refine blk_drewN ?_ _ | refine blk_drew ?_ | refine blk_alloc ?_ _)); refine blk_put (cs := #[.int .i64 0, .int .i64 0, .slice none 0 0, .int .i64 0, .int .i64 0]) ?_ 3 _ rfl; (with_reducible repeat (first | refine blk_drewN ?_ _ | refine blk_drew ?_ | refine blk_alloc ?_ _)); refine blk_put (cs := #[.int .i64 0, .int .i64 0, .slice none 0 0, .int .i64 0, .int .i64 0]) ?_ 2 _ rfl; (with_reducible repeat (first | refine blk_drewN ?_ _ | refine blk_drew ?_ | refine blk_alloc ?_ _)); refine blk_put (cs := #[.int .i64 0, .int .i64 0, .slice none 0 0, .int .i64 0, .int .i64 0]) ?_ 1 _ rfl; (with_reducible repeat (first | refine blk_drewN ?_ _ | refine blk_drew ?_ | refine blk_alloc ?_ _)); refine blk_put (cs := #[.int .i64 0, .int .i64 0, .slice none 0 0, .int .i64 0, .int .i64 0]) ?_ 0 _ rfl; (with_reducible repeat (first | refine blk_drewN ?_ _ | refine blk_drew ?_ | refine blk_alloc ?_ _)); exact BK396.out) Try.underlying30 rfl (by kernel_rfl)) rfl ?_
           exact ⟨_, by first | rfl | (simp [errW_none, errW_some] <;> rfl) | (simp only [← hji18]; first | rfl | (simp [errW_none, errW_some] <;> rfl)) | (simp [*, errW_none, errW_some] <;> rfl), Kd.V_mono (Kd.R_V (Kd.R_nil _ _ _ 0 (fun _ => False))) (fun _ hk => hk.elim), by repeat (first | (with_reducible first | exact HB.out | apply below_alloc | apply pw_below_drewN | apply below_drew1 | refine below_set ?_ GE396.out | refine below_set ?_ GE408.out) | exact HB.out)⟩
         ·rw [if_neg c20] at H
          exact absurd H (by simp)
        ·rw [if_neg c19] at H
         exact absurd H (by simp)
       ·rw [if_neg c17] at H
        have c17b0 : (t405 == 2) = false := beq_eq_false_iff_ne.mpr c17
        have c17b1 : (t405 != 2) = true := bne_iff_ne.mpr c17
        (first | rw [c17b0] | (simp only [i64_w, i32_w]; rw [c17b0]) | skip)
        obtain ⟨ji41, hji41⟩ : ∃ j_ : Int, (wrap64 (t398 + t406)) = j_ := ⟨_, rfl⟩
        replace H : (if 0 ≤ (ji41) then (if (ji41) ≤ (l1.length : Int) then ((repriseref1_ReadBytes.f k (l1.drop ((ji41) : Int).toNat) 1048576).bind fun bt430 => (if bt430.2.2 = 0 then (repriseref23_Read.j0 k a0 t397 (wrap64 ((ji41) + bt430.2.1)) 0 (wrap64 (t405)) bt430.1 0 0) else (some (0, 0, ([] : List Int), 0, 0, 0, bt430.2.2)))) else (none)) else (none)) = some (r1, r2, r3, r4, r5, r6, r7) := by first | (rw [hji41] at H; exact H) | (simp only [hji41] at H ⊢; exact H)
        have hji41w : (IntKind.i64.wrap (t398 + t406)) = ji41 := (i64_w _).trans hji41
        by_cases c42 : 0 ≤ (ji41)
        ·rw [if_pos c42] at H
         have c42b0 := eq_true c42; have c42b1 : decide (0 ≤ (ji41)) = true := decide_eq_true c42
         clear c42; by_cases c43 : (ji41) ≤ (l1.length : Int)
         ·rw [if_pos c43] at H
          have c43b0 := eq_true c43; have c43b1 : decide ((ji41) ≤ (l1.length : Int)) = true := decide_eq_true c43
          clear c43; obtain ⟨y425, hy425⟩ : ∃ y_ : List Int, y_ = (l1.drop ((ji41) : Int).toNat) := ⟨_, rfl⟩
          replace H : ((repriseref1_ReadBytes.f k y425 1048576).bind fun bt430 => (if bt430.2.2 = 0 then (repriseref23_Read.j0 k a0 t397 (wrap64 ((ji41) + bt430.2.1)) 0 (wrap64 (t405)) bt430.1 0 0) else (some (0, 0, ([] : List Int), 0, 0, 0, bt430.2.2)))) = some (r1, r2, r3, r4, r5, r6, r7) := by first | (rw [hy425]; with_reducible exact H) | (have H2_ := (Option.bind_some _ _).symm.trans H; rw [hy425]; with_reducible exact H2_) | (have H2_ := (Option.bind_some _ _).symm.trans H; with_reducible exact H2_) | with_reducible exact H | (rw [hy425]; exact H) | exact H
          have Ny425 := Aside0.mk hy425; clear hy425; replace H := Option.bind_eq_some_iff.mp H; obtain ⟨⟨t430, t433, t434⟩, A440, H⟩ := H; replace H : (if t434 = 0 then (repriseref23_Read.j0 k a0 t397 (wrap64 ((ji41) + t433)) 0 (wrap64 (t405)) t430 0 0) else (some (0, 0, ([] : List Int), 0, 0, 0, t434))) = some (r1, r2, r3, r4, r5, r6, r7) := H
          have A44 := Aside0.mk A440; clear A440; by_cases c45 : t434 = 0
          ·rw [if_pos c45] at H
           have c45b0 : (t434 == 0) = true := beq_iff_eq.mpr c45
           have c45b1 : (t434 != 0) = false := bne_eq_false_iff_eq.mpr c45
           clear c45; have H' := Aside0.mk H; clear H; have q46 : ((ji41) : Int) ≤ ((l1.length : Int) : Int) := of_decide_eq_true (by first | (with_reducible assumption) | assumption)
           obtain ⟨i046, hi046, _, hsz46, _⟩ := info_parts info5; have hroom46 : l1.length ≤ c1 := (Kd.V_reads' HO1.out).2.1
           have hC46 : Kd.F (Kd.int .u8) _ _ A1 l1.length l1 := (Kd.V_at (base := w.heap.size) HO1.out).2.2
           have q046 : (0 : Int) ≤ ((ji41) : Int) := of_decide_eq_true (by first | (with_reducible assumption) | assumption)
           have hcut46 := cut_from (P := Try.prog) 22 5 .i64 Try.underlying22 hi046 1 hsz46 A1 l1.length c1 (ji41) q046 q46
           have hr46 := Kd.F_cut (m := ((ji41) : Int).toNat) (c := c1) hC46 (by omega) hroom46
           obtain ⟨A46, hA46⟩ : ∃ Az_, Az_ = (if c1 = ((ji41) : Int).toNat then A1 else (A1 : Option Addr).map (·.add (((ji41) : Int).toNat * 1))) := ⟨_, rfl⟩
           obtain ⟨c46, hc46⟩ : ∃ cz_, cz_ = c1 - ((ji41) : Int).toNat := ⟨_, rfl⟩
           have hy46 : y425.length = l1.length - ((ji41) : Int).toNat := (by rw [Ny425.out, List.length_drop] <;> omega)
           rw [show (l1).drop ((ji41) : Int).toNat = y425 from Ny425.out.symm] at hr46
           replace hr46 : Kd.F (Kd.int .u8) _ _ A46 y425.length y425 := (by rw [hA46]; exact hr46)
           rw [← hy46, ← hA46, ← hc46] at hcut46
           have HO429 := Aside0.mk (show Kd.V (Kd.int .u8) 5 _ w.heap.size _ (.slice A46 y425.length c46) y425 from Kd.V_mk (by rw [hy46, hc46]; exact Nat.sub_le_sub_right hroom46 _) hr46)
           have HC429 := Aside0.mk (show y425.length ≤ c46 from by rw [hy46, hc46]; exact Nat.sub_le_sub_right hroom46 _)
           clear hr46 hC46 hroom46 hi046 hsz46 hc46; have KY46 := Aside0.mk hy46; have KA46 := Aside0.mk hA46; clear hy46 hA46; replace q46 := eq_true q46; go_wp2_with (first | ((with_reducible refine gate_callee (f := 39) rfl ?_); refine goesL_ (some 92) rfl rfl Try.func39 (by kernel_rfl) rfl #[.slice A46 y425.length c46, .int .i64 1048576] rfl (by (try simp only [List.map_toArray, List.map_cons, List.map_nil]); first | done | rfl | (simp only [List.length_drop, List.length_take]; rfl)) ?_; (with_reducible refine (repriseref1_ReadBytes.calls k (fun k_ => (((P1_ k_ ∨ w.heap.size ≤ k_) ∧ k_ ≠ gb396) ∧ k_ ≠ gb408)) _ _ y425 1048576 t430 t433 t434 _ ?side1 A44.out).mono ?_); (case side1 => exact HO429.out); rintro e w47 ⟨v431, rfl, ho0, hb⟩; refine ⟨_, rfl, ?_⟩; have n0_ := Aside0.mk (Kd.V_below (by (with_reducible repeat (first | apply Kd.V_alloc | apply Kd.V_drewN | apply Kd.V_drew)); exact HO1.out) hb); have n1_ := Aside0.mk (Kd.V_below (by (with_reducible repeat (first | apply Kd.V_alloc | apply Kd.V_drewN | apply Kd.V_drew)); exact HO404.out) hb); have n2_ := Aside0.mk (Kd.V_below (by (with_reducible repeat (first | apply Kd.V_alloc | apply Kd.V_drewN | apply Kd.V_drew)); exact HO429.out) hb); have n3_ := Aside0.mk (Kd.V_lower (Kd.V_mono (ok' := fun k_ => (P1_ k_ ∨ w.heap.size ≤ k_) ∧ k_ ≠ gb396 ∧ k_ ≠ gb408) ho0 (fun k_ hk_ => ⟨Or.elim hk_ (fun hs_ => hs_.1.1) (fun hn_ => (.inr (Nat.le_trans (below_size (by repeat (first | (with_reducible first | exact HB.out | apply below_alloc | apply pw_below_drewN | apply below_drew1 | refine below_set ?_ GE396.out | refine below_set ?_ GE408.out) | exact HB.out))) hn_))), Or.elim hk_ (fun hs_ => hs_.1.2) (fun hn_ => (Kd.freshB (g := gb396) (o := .cells #[.int .i64 0, .int .i64 0, .slice none 0 0, .int .i64 0, .int .i64 0] 30 (0, 0)) (by (with_reducible repeat (first | refine blk_drewN ?_ _ | refine blk_drew ?_ | refine blk_alloc ?_ _)); exact BK396.out) k_ hn_)), Or.elim hk_ (fun hs_ => hs_.2) (fun hn_ => (Kd.freshB (g := gb408) (o := .cells #[.int .i64 0, .int .i64 0, .slice none 0 0, .int .i64 0, .int .i64 0] 30 (0, 0)) (by (with_reducible repeat (first | refine blk_drewN ?_ _ | refine blk_drew ?_ | refine blk_alloc ?_ _)); exact BK408.out) k_ hn_))⟩)) (below_size (by repeat (first | (with_reducible first | exact HB.out | apply below_alloc | apply pw_below_drewN | apply below_drew1 | refine below_set ?_ GE396.out | refine below_set ?_ GE408.out) | exact HB.out)))); have n4_ := Aside0.mk (blk_below (g := gb396) (o := .cells #[.int .i64 0, .int .i64 0, .slice none 0 0, .int .i64 0, .int .i64 0] 30 (0, 0)) (by (with_reducible repeat (first | refine blk_drewN ?_ _ | refine blk_drew ?_ | refine blk_alloc ?_ _)); exact BK396.out) hb); have n5_ := Aside0.mk (blk_below (g := gb408) (o := .cells #[.int .i64 0, .int .i64 0, .slice none 0 0, .int .i64 0, .int .i64 0] 30 (0, 0)) (by (with_reducible repeat (first | refine blk_drewN ?_ _ | refine blk_drew ?_ | refine blk_alloc ?_ _)); exact BK408.out) hb); have n6_ := Aside0.mk (below_step (by repeat (first | (with_reducible first | exact HB.out | apply below_alloc | apply pw_below_drewN | apply below_drew1 | refine below_set ?_ GE396.out | refine below_set ?_ GE408.out) | exact HB.out)) hb); clear HO1; clear HO404; clear HO429; clear BK396; clear BK408; clear HB; have HO1 := n0_; have HO404 := n1_; have HO429 := n2_; have HO432 := n3_; have BK396 := n4_; have BK408 := n5_; have HB := n6_; clear n0_ n1_ n2_ n3_ n4_ n5_ n6_; (try clear hb); (try clear hb2); (try clear hk); (try clear hi); (try clear ho0); obtain ⟨Ao48, co48, eo48⟩ := Kd.V_slice HO432.out; subst eo48; have hnb49 := NB408_396.out; have hnc49 := NB396_408.out; have hcz50_0 : w47.cell? ⟨gb408, 0, none⟩ = some (.int .i64 0) := (blk_cell BK408.out 0).trans rfl; have hcz50_1 : w47.cell? ⟨gb408, 1, none⟩ = some (.int .i64 0) := (blk_cell BK408.out 1).trans rfl; have hcz50_2 : w47.cell? ⟨gb408, 2, none⟩ = some (.slice none 0 0) := (blk_cell BK408.out 2).trans rfl; have hcz50_3 : w47.cell? ⟨gb408, 3, none⟩ = some (.int .i64 0) := (blk_cell BK408.out 3).trans rfl; have hcz50_4 : w47.cell? ⟨gb408, 4, none⟩ = some (.int .i64 0) := (blk_cell BK408.out 4).trans rfl; have hfz50_0 := blk_frozen BK408.out 0; have hfz50_1 := blk_frozen BK408.out 1; have hfz50_2 := blk_frozen BK408.out 2; have hfz50_3 := blk_frozen BK408.out 3; have hfz50_4 := blk_frozen BK408.out 4))
           go_meet
           case rel => exact ⟨_, (wrap64 ((ji41) + t433)), (0), (0), (0), (0), (0), (wrap64 (t405)), (t430), (0), (0), (.slice Ao48 t430.length co48), (by first | rfl | (simp; done) | (simp only [← hji41] <;> (first | rfl | simp)) | (simp [*]; done)), H', ⟨by first | omega | exact Nat.le_refl _⟩, ⟨by (with_reducible repeat (first | apply Kd.V_alloc | apply Kd.V_drewN | apply Kd.V_drew)); exact Kd.V_mono (Kd.V_far (p := ⟨gb408, 4, none⟩) (Kd.V_far (p := ⟨gb408, 3, none⟩) (Kd.V_far (p := ⟨gb408, 2, none⟩) (Kd.V_far (p := ⟨gb408, 1, none⟩) (Kd.V_far (p := ⟨gb408, 0, none⟩) (Kd.V_mono HO432.out (fun k_ hk => (⟨hk, hk.2.2⟩ : _ ∧ k_ ≠ gb408))) (fun _ hk => hk.2) (.int .i64 0)) (fun _ hk => hk.2) (.int .i64 (wrap64 (t405)))) (fun _ hk => hk.2) (.slice Ao48 t430.length co48)) (fun _ hk => hk.2) (.int .i64 0)) (fun _ hk => hk.2) (.int .i64 0)) (fun _ hk => ⟨hk.1.1, ⟨hk.1.2.1, hk.1.2.2⟩⟩)⟩, ⟨by (with_reducible repeat (first | refine blk_drewN ?_ _ | refine blk_drew ?_ | refine blk_alloc ?_ _)); refine blk_far ?_ NB396_408.out _; (with_reducible repeat (first | refine blk_drewN ?_ _ | refine blk_drew ?_ | refine blk_alloc ?_ _)); refine blk_far ?_ NB396_408.out _; (with_reducible repeat (first | refine blk_drewN ?_ _ | refine blk_drew ?_ | refine blk_alloc ?_ _)); refine blk_far ?_ NB396_408.out _; (with_reducible repeat (first | refine blk_drewN ?_ _ | refine blk_drew ?_ | refine blk_alloc ?_ _)); refine blk_far ?_ NB396_408.out _; (with_reducible repeat (first | refine blk_drewN ?_ _ | refine blk_drew ?_ | refine blk_alloc ?_ _)); refine blk_far ?_ NB396_408.out _; (with_reducible repeat (first | refine blk_drewN ?_ _ | refine blk_drew ?_ | refine blk_alloc ?_ _)); exact BK396.out⟩, ⟨by (with_reducible repeat (first | refine blk_drewN ?_ _ | refine blk_drew ?_ | refine blk_alloc ?_ _)); refine blk_put (cs := #[.int .i64 0, .int .i64 (wrap64 (t405)), .slice Ao48 t430.length co48, .int .i64 0, .int .i64 0]) ?_ 4 _ rfl; (with_reducible repeat (first | refine blk_drewN ?_ _ | refine blk_drew ?_ | refine blk_alloc ?_ _)); refine blk_put (cs := #[.int .i64 0, .int .i64 (wrap64 (t405)), .slice Ao48 t430.length co48, .int .i64 0, .int .i64 0]) ?_ 3 _ rfl; (with_reducible repeat (first | refine blk_drewN ?_ _ | refine blk_drew ?_ | refine blk_alloc ?_ _)); refine blk_put (cs := #[.int .i64 0, .int .i64 (wrap64 (t405)), .slice none 0 0, .int .i64 0, .int .i64 0]) ?_ 2 _ rfl; (with_reducible repeat (first | refine blk_drewN ?_ _ | refine blk_drew ?_ | refine blk_alloc ?_ _)); refine blk_put (cs := #[.int .i64 0, .int .i64 0, .slice none 0 0, .int .i64 0, .int .i64 0]) ?_ 1 _ rfl; (with_reducible repeat (first | refine blk_drewN ?_ _ | refine blk_drew ?_ | refine blk_alloc ?_ _)); refine blk_put (cs := #[.int .i64 0, .int .i64 0, .slice none 0 0, .int .i64 0, .int .i64 0]) ?_ 0 _ rfl; (with_reducible repeat (first | refine blk_drewN ?_ _ | refine blk_drew ?_ | refine blk_alloc ?_ _)); exact BK408.out⟩, ⟨by repeat (first | (with_reducible first | exact HB.out | apply below_alloc | apply pw_below_drewN | apply below_drew1 | refine below_set ?_ GE396.out | refine below_set ?_ GE408.out) | exact HB.out)⟩⟩
          ·rw [if_neg c45] at H
           have c45b0 : (t434 == 0) = false := beq_eq_false_iff_ne.mpr c45
           have c45b1 : (t434 != 0) = true := bne_iff_ne.mpr c45
           simp only [Option.some.injEq, Prod.mk.injEq] at H
           obtain ⟨rfl, rfl, rfl, rfl, rfl, rfl, rfl⟩ := H; have q51 : ((ji41) : Int) ≤ ((l1.length : Int) : Int) := of_decide_eq_true (by first | (with_reducible assumption) | assumption)
           obtain ⟨i051, hi051, _, hsz51, _⟩ := info_parts info5; have hroom51 : l1.length ≤ c1 := (Kd.V_reads' HO1.out).2.1
           have hC51 : Kd.F (Kd.int .u8) _ _ A1 l1.length l1 := (Kd.V_at (base := w.heap.size) HO1.out).2.2
           have q051 : (0 : Int) ≤ ((ji41) : Int) := of_decide_eq_true (by first | (with_reducible assumption) | assumption)
           have hcut51 := cut_from (P := Try.prog) 22 5 .i64 Try.underlying22 hi051 1 hsz51 A1 l1.length c1 (ji41) q051 q51
           have hr51 := Kd.F_cut (m := ((ji41) : Int).toNat) (c := c1) hC51 (by omega) hroom51
           obtain ⟨A51, hA51⟩ : ∃ Az_, Az_ = (if c1 = ((ji41) : Int).toNat then A1 else (A1 : Option Addr).map (·.add (((ji41) : Int).toNat * 1))) := ⟨_, rfl⟩
           obtain ⟨c51, hc51⟩ : ∃ cz_, cz_ = c1 - ((ji41) : Int).toNat := ⟨_, rfl⟩
           have hy51 : y425.length = l1.length - ((ji41) : Int).toNat := (by rw [Ny425.out, List.length_drop] <;> omega)
           rw [show (l1).drop ((ji41) : Int).toNat = y425 from Ny425.out.symm] at hr51
           replace hr51 : Kd.F (Kd.int .u8) _ _ A51 y425.length y425 := (by rw [hA51]; exact hr51)
           rw [← hy51, ← hA51, ← hc51] at hcut51
           have HO429 := Aside0.mk (show Kd.V (Kd.int .u8) 5 _ w.heap.size _ (.slice A51 y425.length c51) y425 from Kd.V_mk (by rw [hy51, hc51]; exact Nat.sub_le_sub_right hroom51 _) hr51)
           have HC429 := Aside0.mk (show y425.length ≤ c51 from by rw [hy51, hc51]; exact Nat.sub_le_sub_right hroom51 _)
           clear hr51 hC51 hroom51 hi051 hsz51 hc51; have KY51 := Aside0.mk hy51; have KA51 := Aside0.mk hA51; clear hy51 hA51; replace q51 := eq_true q51; go_wp2_with (first | ((with_reducible refine gate_callee (f := 39) rfl ?_); refine goesL_ (some 92) rfl rfl Try.func39 (by kernel_rfl) rfl #[.slice A51 y425.length c51, .int .i64 1048576] rfl (by (try simp only [List.map_toArray, List.map_cons, List.map_nil]); first | done | rfl | (simp only [List.length_drop, List.length_take]; rfl)) ?_; (with_reducible refine (repriseref1_ReadBytes.calls k (fun k_ => (((P1_ k_ ∨ w.heap.size ≤ k_) ∧ k_ ≠ gb396) ∧ k_ ≠ gb408)) _ _ y425 1048576 t430 t433 t434 _ ?side1 A44.out).mono ?_); (case side1 => exact HO429.out); rintro e w52 ⟨v431, rfl, ho0, hb⟩; refine ⟨_, rfl, ?_⟩; have n0_ := Aside0.mk (Kd.V_below (by (with_reducible repeat (first | apply Kd.V_alloc | apply Kd.V_drewN | apply Kd.V_drew)); exact HO1.out) hb); have n1_ := Aside0.mk (Kd.V_below (by (with_reducible repeat (first | apply Kd.V_alloc | apply Kd.V_drewN | apply Kd.V_drew)); exact HO404.out) hb); have n2_ := Aside0.mk (Kd.V_below (by (with_reducible repeat (first | apply Kd.V_alloc | apply Kd.V_drewN | apply Kd.V_drew)); exact HO429.out) hb); have n3_ := Aside0.mk (Kd.V_lower (Kd.V_mono (ok' := fun k_ => (P1_ k_ ∨ w.heap.size ≤ k_) ∧ k_ ≠ gb396 ∧ k_ ≠ gb408) ho0 (fun k_ hk_ => ⟨Or.elim hk_ (fun hs_ => hs_.1.1) (fun hn_ => (.inr (Nat.le_trans (below_size (by repeat (first | (with_reducible first | exact HB.out | apply below_alloc | apply pw_below_drewN | apply below_drew1 | refine below_set ?_ GE396.out | refine below_set ?_ GE408.out) | exact HB.out))) hn_))), Or.elim hk_ (fun hs_ => hs_.1.2) (fun hn_ => (Kd.freshB (g := gb396) (o := .cells #[.int .i64 0, .int .i64 0, .slice none 0 0, .int .i64 0, .int .i64 0] 30 (0, 0)) (by (with_reducible repeat (first | refine blk_drewN ?_ _ | refine blk_drew ?_ | refine blk_alloc ?_ _)); exact BK396.out) k_ hn_)), Or.elim hk_ (fun hs_ => hs_.2) (fun hn_ => (Kd.freshB (g := gb408) (o := .cells #[.int .i64 0, .int .i64 0, .slice none 0 0, .int .i64 0, .int .i64 0] 30 (0, 0)) (by (with_reducible repeat (first | refine blk_drewN ?_ _ | refine blk_drew ?_ | refine blk_alloc ?_ _)); exact BK408.out) k_ hn_))⟩)) (below_size (by repeat (first | (with_reducible first | exact HB.out | apply below_alloc | apply pw_below_drewN | apply below_drew1 | refine below_set ?_ GE396.out | refine below_set ?_ GE408.out) | exact HB.out)))); have n4_ := Aside0.mk (blk_below (g := gb396) (o := .cells #[.int .i64 0, .int .i64 0, .slice none 0 0, .int .i64 0, .int .i64 0] 30 (0, 0)) (by (with_reducible repeat (first | refine blk_drewN ?_ _ | refine blk_drew ?_ | refine blk_alloc ?_ _)); exact BK396.out) hb); have n5_ := Aside0.mk (blk_below (g := gb408) (o := .cells #[.int .i64 0, .int .i64 0, .slice none 0 0, .int .i64 0, .int .i64 0] 30 (0, 0)) (by (with_reducible repeat (first | refine blk_drewN ?_ _ | refine blk_drew ?_ | refine blk_alloc ?_ _)); exact BK408.out) hb); have n6_ := Aside0.mk (below_step (by repeat (first | (with_reducible first | exact HB.out | apply below_alloc | apply pw_below_drewN | apply below_drew1 | refine below_set ?_ GE396.out | refine below_set ?_ GE408.out) | exact HB.out)) hb); clear HO1; clear HO404; clear HO429; clear BK396; clear BK408; clear HB; have HO1 := n0_; have HO404 := n1_; have HO429 := n2_; have HO432 := n3_; have BK396 := n4_; have BK408 := n5_; have HB := n6_; clear n0_ n1_ n2_ n3_ n4_ n5_ n6_; (try clear hb); (try clear hb2); (try clear hk); (try clear hi); (try clear ho0); have hnb53 := NB396_408.out; have hnc53 := NB408_396.out; have hcz54_0 : w52.cell? ⟨gb396, 0, none⟩ = some (.int .i64 0) := (blk_cell BK396.out 0).trans rfl; have hcz54_1 : w52.cell? ⟨gb396, 1, none⟩ = some (.int .i64 0) := (blk_cell BK396.out 1).trans rfl; have hcz54_2 : w52.cell? ⟨gb396, 2, none⟩ = some (.slice none 0 0) := (blk_cell BK396.out 2).trans rfl; have hcz54_3 : w52.cell? ⟨gb396, 3, none⟩ = some (.int .i64 0) := (blk_cell BK396.out 3).trans rfl; have hcz54_4 : w52.cell? ⟨gb396, 4, none⟩ = some (.int .i64 0) := (blk_cell BK396.out 4).trans rfl; have hfz54_0 := blk_frozen BK396.out 0; have hfz54_1 := blk_frozen BK396.out 1; have hfz54_2 := blk_frozen BK396.out 2; have hfz54_3 := blk_frozen BK396.out 3; have hfz54_4 := blk_frozen BK396.out 4))
           refine bodyPost_ret (results_ctt rfl _ _ gb396 30 #[.int .i64 0, .int .i64 0, .slice none 0 0, .int .i64 0, .int .i64 0] (0, 0) _ rfl (by (with_reducible repeat (first | refine blk_drewN ?_ _ | refine blk_drew ?_ | refine blk_alloc ?_ _)); refine blk_put (cs := #[.int .i64 0, .int .i64 0, .slice none 0 0, .int .i64 0, .int .i64 0]) ?_ 4 _ rfl; (with_reducible repeat (first | refine blk_drewN ?_ _ | refine blk_drew ?_ | refine blk_alloc ?_ _)); refine blk_put (cs := #[.int .i64 0, .int .i64 0, .slice none 0 0, .int .i64 0, .int .i64 0]) ?_ 3 _ rfl; (with_reducible repeat (first | refine blk_drewN ?_ _ | refine blk_drew ?_ | refine blk_alloc ?_ _)); refine blk_put (cs := #[.int .i64 0, .int .i64 0, .slice none 0 0, .int .i64 0, .int .i64 0]) ?_ 2 _ rfl; (with_reducible repeat (first | refine blk_drewN ?_ _ | refine blk_drew ?_ | refine blk_alloc ?_ _)); refine blk_put (cs := #[.int .i64 0, .int .i64 0, .slice none 0 0, .int .i64 0, .int .i64 0]) ?_ 1 _ rfl; (with_reducible repeat (first | refine blk_drewN ?_ _ | refine blk_drew ?_ | refine blk_alloc ?_ _)); refine blk_put (cs := #[.int .i64 0, .int .i64 0, .slice none 0 0, .int .i64 0, .int .i64 0]) ?_ 0 _ rfl; (with_reducible repeat (first | refine blk_drewN ?_ _ | refine blk_drew ?_ | refine blk_alloc ?_ _)); exact BK396.out) Try.underlying30 rfl (by kernel_rfl)) rfl ?_
           exact ⟨_, by first | rfl | (simp [errW_none, errW_some] <;> rfl) | (simp only [← hji41]; first | rfl | (simp [errW_none, errW_some] <;> rfl)) | (simp [*, errW_none, errW_some] <;> rfl), Kd.V_mono (Kd.R_V (Kd.R_nil _ _ _ 0 (fun _ => False))) (fun _ hk => hk.elim), by repeat (first | (with_reducible first | exact HB.out | apply below_alloc | apply pw_below_drewN | apply below_drew1 | refine below_set ?_ GE396.out | refine below_set ?_ GE408.out) | exact HB.out)⟩
         ·rw [if_neg c43] at H
          exact absurd H (by simp)
        ·rw [if_neg c42] at H
         exact absurd H (by simp)
      case rest =>
       clear HC13
       try clear c1
       try clear q1
       try clear c2
       try clear p2
       try clear c3
       try clear q3
       try clear c4
       try clear c4b0
       try clear c4b1
       try clear q4
       try clear c5
       try clear c5b0
       try clear c5b1
       try clear q5
       try clear c6
       try clear c6b0
       try clear c6b1
       try clear p6
       try clear c8
       try clear c8b0
       try clear c8b1
       try clear c9
       try clear c9b0
       try clear c11
       try clear q11
       try clear c15
       try clear q15
       try clear c17
       try clear c17b0
       try clear c17b1
       try clear c19
       try clear c19b0
       try clear c19b1
       try clear c20
       try clear c20b0
       try clear c20b1
       try clear c22
       try clear c22b0
       try clear c22b1
       try clear c24
       try clear c24b0
       try clear c24b1
       try clear c25
       try clear c25b0
       try clear c25b1
       try clear c27
       try clear c27b0
       try clear c27b1
       try clear c30
       try clear q30
       try clear c31
       try clear q31
       try clear c32
       try clear c34
       try clear q34
       try clear c35
       try clear q35
       try clear c36
       try clear c38
       try clear q38
       try clear c39
       try clear c42
       try clear c42b0
       try clear c42b1
       try clear c43
       try clear c43b0
       try clear c43b1
       try clear c45
       try clear c45b0
       try clear c45b1
       try clear c46
       try clear q46
       try clear c49
       try clear c51
       try clear q51
       try clear c53
       try clear hcz12_0
       try clear hcz12_1
       try clear hcz12_2
       try clear hcz12_3
       try clear hcz12_4
       try clear hcz33_0
       try clear hcz33_1
       try clear hcz33_2
       try clear hcz33_3
       try clear hcz33_4
       try clear hcz37_0
       try clear hcz37_1
       try clear hcz37_2
       try clear hcz37_3
       try clear hcz37_4
       try clear hcz40_0
       try clear hcz40_1
       try clear hcz40_2
       try clear hcz40_3
       try clear hcz40_4
       try clear hcz50_0
       try clear hcz50_1
       try clear hcz50_2
       try clear hcz50_3
       try clear hcz50_4
       try clear hcz54_0
       try clear hcz54_1
       try clear hcz54_2
       try clear hcz54_3
       try clear hcz54_4
       try clear hfz12_0
       try clear hfz12_1
       try clear hfz12_2
       try clear hfz12_3
       try clear hfz12_4
       try clear hfz33_0
       try clear hfz33_1
       try clear hfz33_2
       try clear hfz33_3
       try clear hfz33_4
       try clear hfz37_0
       try clear hfz37_1
       try clear hfz37_2
       try clear hfz37_3
       try clear hfz37_4
       try clear hfz40_0
       try clear hfz40_1
       try clear hfz40_2
       try clear hfz40_3
       try clear hfz40_4
       try clear hfz50_0
       try clear hfz50_1
       try clear hfz50_2
       try clear hfz50_3
       try clear hfz50_4
       try clear hfz54_0
       try clear hfz54_1
       try clear hfz54_2
       try clear hfz54_3
       try clear hfz54_4
       try clear q011
       try clear q015
       try clear q030
       try clear q031
       try clear q034
       try clear q035
       try clear q038
       try clear q046
       try clear q051
       try clear q11
       try clear q15
       try clear q30
       try clear q31
       try clear q34
       try clear q35
       try clear q38
       try clear q46
       try clear q51
       obtain ⟨kq, x10_12, x397000_12, x397001_12, x397003_12, x397004_12, x409000_12, x409001_12, x409002_12, x409003_12, x409004_12, u409002, rfl, HA, HJ12, HO_409002, BK396, BK408, HB⟩ := hcut; cases kq with
       | zero => exact absurd HA.out (by simp [repriseref23_Read.j0])
       | succ kj12 =>
        have H := HA.out; clear HA; simp only [repriseref23_Read.j0] at H
        have HC55 := Aside0.mk H; clear H; go_upto_region 27 with (fail)
        go_cut [119] (fun v119 wc => ∃ (kq : Nat) (x119_54 : Bool), v119 = .bool x119_54 ∧ Aside0 (repriseref23_Read.j1 kq a0 t397 x10_12 x119_54 x409000_12 x409001_12 x409002_12 x409003_12 x409004_12 = some (r1, r2, r3, r4, r5, r6, r7)) ∧ Aside0 (kq ≤ kj12) ∧ Aside0 (Kd.V (Kd.int .u8) 5 wc w.heap.size (fun k_ => (P1_ k_ ∨ w.heap.size ≤ k_) ∧ k_ ≠ gb396 ∧ k_ ≠ gb408) u409002 x409002_12) ∧ Aside0 (wc.heap[gb396]? = some (.cells #[.int .i64 x397000_12, .int .i64 x397001_12, (.slice none 0 0), .int .i64 x397003_12, .int .i64 x397004_12] 30 (0, 0))) ∧ Aside0 (wc.heap[gb408]? = some (.cells #[.int .i64 x409000_12, .int .i64 x409001_12, u409002, .int .i64 x409003_12, .int .i64 x409004_12] 30 (0, 0))) ∧ Aside0 (Below w.heap.size w wc))
        case first =>
         have H := HC55.out; clear HC55; by_cases c56 : a0 < 0
         ·rw [if_pos c56] at H
          have c56b0 : decide (a0 < 0) = true := decide_eq_true c56
          clear c56; (first | rw [c56b0] | (simp only [i64_w, i32_w]; rw [c56b0]) | skip)
          have H' := Aside0.mk H; clear H; go_wp2
          go_meet
          case rel => exact ⟨_, (true), (by first | rfl | (simp; done) | (simp [*]; done)), H', ⟨by have := HJ12.out; first | omega | exact Nat.le_refl _⟩, ⟨by (with_reducible repeat (first | apply Kd.V_alloc | apply Kd.V_drewN | apply Kd.V_drew)); exact HO_409002.out⟩, ⟨by (with_reducible repeat (first | refine blk_drewN ?_ _ | refine blk_drew ?_ | refine blk_alloc ?_ _)); exact BK396.out⟩, ⟨by (with_reducible repeat (first | refine blk_drewN ?_ _ | refine blk_drew ?_ | refine blk_alloc ?_ _)); exact BK408.out⟩, ⟨by repeat (first | (with_reducible first | exact HB.out | apply below_alloc | apply pw_below_drewN | apply below_drew1 | refine below_set ?_ GE396.out | refine below_set ?_ GE408.out) | exact HB.out)⟩⟩
         ·rw [if_neg c56] at H
          have c56b0 : decide (a0 < 0) = false := decide_eq_false c56
          clear c56; (first | rw [c56b0] | (simp only [i64_w, i32_w]; rw [c56b0]) | skip)
          by_cases c57 : a0 > 4611686018427387904
          ·rw [if_pos c57] at H
           have c57b0 : decide (4611686018427387904 < a0) = true := decide_eq_true c57
           clear c57; have H' := Aside0.mk H; clear H; go_wp2
           go_meet
           case rel => exact ⟨_, (true), (by first | rfl | (simp; done) | (simp [*]; done)), H', ⟨by have := HJ12.out; first | omega | exact Nat.le_refl _⟩, ⟨by (with_reducible repeat (first | apply Kd.V_alloc | apply Kd.V_drewN | apply Kd.V_drew)); exact HO_409002.out⟩, ⟨by (with_reducible repeat (first | refine blk_drewN ?_ _ | refine blk_drew ?_ | refine blk_alloc ?_ _)); exact BK396.out⟩, ⟨by (with_reducible repeat (first | refine blk_drewN ?_ _ | refine blk_drew ?_ | refine blk_alloc ?_ _)); exact BK408.out⟩, ⟨by repeat (first | (with_reducible first | exact HB.out | apply below_alloc | apply pw_below_drewN | apply below_drew1 | refine below_set ?_ GE396.out | refine below_set ?_ GE408.out) | exact HB.out)⟩⟩
          ·rw [if_neg c57] at H
           have c57b0 : decide (4611686018427387904 < a0) = false := decide_eq_false c57
           clear c57; have H' := Aside0.mk H; clear H; go_wp2
           go_meet
           case rel => exact ⟨_, (decide (t397 > (IntKind.u64.wrap (wrap64 (4611686018427387904 - a0))))), (by first | rfl | (simp; done) | (simp [*]; done)), H', ⟨by have := HJ12.out; first | omega | exact Nat.le_refl _⟩, ⟨by (with_reducible repeat (first | apply Kd.V_alloc | apply Kd.V_drewN | apply Kd.V_drew)); exact HO_409002.out⟩, ⟨by (with_reducible repeat (first | refine blk_drewN ?_ _ | refine blk_drew ?_ | refine blk_alloc ?_ _)); exact BK396.out⟩, ⟨by (with_reducible repeat (first | refine blk_drewN ?_ _ | refine blk_drew ?_ | refine blk_alloc ?_ _)); exact BK408.out⟩, ⟨by repeat (first | (with_reducible first | exact HB.out | apply below_alloc | apply pw_below_drewN | apply below_drew1 | refine below_set ?_ GE396.out | refine below_set ?_ GE408.out) | exact HB.out)⟩⟩
        case rest =>
         clear HC55
         try clear c1
         try clear q1
         try clear c2
         try clear p2
         try clear c3
         try clear q3
         try clear c4
         try clear c4b0
         try clear c4b1
         try clear q4
         try clear c5
         try clear c5b0
         try clear c5b1
         try clear q5
         try clear c6
         try clear c6b0
         try clear c6b1
         try clear p6
         try clear c8
         try clear c8b0
         try clear c8b1
         try clear c9
         try clear c9b0
         try clear c11
         try clear q11
         try clear c15
         try clear q15
         try clear c17
         try clear c17b0
         try clear c17b1
         try clear c19
         try clear c19b0
         try clear c19b1
         try clear c20
         try clear c20b0
         try clear c20b1
         try clear c22
         try clear c22b0
         try clear c22b1
         try clear c24
         try clear c24b0
         try clear c24b1
         try clear c25
         try clear c25b0
         try clear c25b1
         try clear c27
         try clear c27b0
         try clear c27b1
         try clear c30
         try clear q30
         try clear c31
         try clear q31
         try clear c32
         try clear c34
         try clear q34
         try clear c35
         try clear q35
         try clear c36
         try clear c38
         try clear q38
         try clear c39
         try clear c42
         try clear c42b0
         try clear c42b1
         try clear c43
         try clear c43b0
         try clear c43b1
         try clear c45
         try clear c45b0
         try clear c45b1
         try clear c46
         try clear q46
         try clear c49
         try clear c51
         try clear q51
         try clear c53
         try clear c56
         try clear c56b0
         try clear c57
         try clear c57b0
         try clear hcz12_0
         try clear hcz12_1
         try clear hcz12_2
         try clear hcz12_3
         try clear hcz12_4
         try clear hcz33_0
         try clear hcz33_1
         try clear hcz33_2
         try clear hcz33_3
         try clear hcz33_4
         try clear hcz37_0
         try clear hcz37_1
         try clear hcz37_2
         try clear hcz37_3
         try clear hcz37_4
         try clear hcz40_0
         try clear hcz40_1
         try clear hcz40_2
         try clear hcz40_3
         try clear hcz40_4
         try clear hcz50_0
         try clear hcz50_1
         try clear hcz50_2
         try clear hcz50_3
         try clear hcz50_4
         try clear hcz54_0
         try clear hcz54_1
         try clear hcz54_2
         try clear hcz54_3
         try clear hcz54_4
         try clear hfz12_0
         try clear hfz12_1
         try clear hfz12_2
         try clear hfz12_3
         try clear hfz12_4
         try clear hfz33_0
         try clear hfz33_1
         try clear hfz33_2
         try clear hfz33_3
         try clear hfz33_4
         try clear hfz37_0
         try clear hfz37_1
         try clear hfz37_2
         try clear hfz37_3
         try clear hfz37_4
         try clear hfz40_0
         try clear hfz40_1
         try clear hfz40_2
         try clear hfz40_3
         try clear hfz40_4
         try clear hfz50_0
         try clear hfz50_1
         try clear hfz50_2
         try clear hfz50_3
         try clear hfz50_4
         try clear hfz54_0
         try clear hfz54_1
         try clear hfz54_2
         try clear hfz54_3
         try clear hfz54_4
         try clear p2
         try clear p6
         try clear q011
         try clear q015
         try clear q030
         try clear q031
         try clear q034
         try clear q035
         try clear q038
         try clear q046
         try clear q051
         try clear q1
         try clear q11
         try clear q15
         try clear q3
         try clear q30
         try clear q31
         try clear q34
         try clear q35
         try clear q38
         try clear q4
         try clear q46
         try clear q5
         try clear q51
         obtain ⟨kq, x119_54, rfl, HA, HJ54, HO_409002, BK396, BK408, HB⟩ := hcut; cases kq with
         | zero => exact absurd HA.out (by simp [repriseref23_Read.j1])
         | succ kj54 =>
          have H := HA.out; clear HA; simp only [repriseref23_Read.j1] at H
          by_cases c58 : x119_54 = true
          ·subst c58; have H1 : (some (0, 0, ([] : List Int), 0, 0, 0, 21)) = some (r1, r2, r3, r4, r5, r6, r7) := by rw [if_pos rfl] at H; exact H
           clear H; have H := H1; clear H1; simp only [Option.some.injEq, Prod.mk.injEq] at H
           obtain ⟨rfl, rfl, rfl, rfl, rfl, rfl, rfl⟩ := H; have hnb59 := NB396_408.out; have hnc59 := NB408_396.out; have hcz60_0 : wc.cell? ⟨gb396, 0, none⟩ = some (.int .i64 x397000_12) := (blk_cell BK396.out 0).trans rfl
           have hcz60_1 : wc.cell? ⟨gb396, 1, none⟩ = some (.int .i64 x397001_12) := (blk_cell BK396.out 1).trans rfl
           have hcz60_2 : wc.cell? ⟨gb396, 2, none⟩ = some (.slice none 0 0) := (blk_cell BK396.out 2).trans rfl
           have hcz60_3 : wc.cell? ⟨gb396, 3, none⟩ = some (.int .i64 x397003_12) := (blk_cell BK396.out 3).trans rfl
           have hcz60_4 : wc.cell? ⟨gb396, 4, none⟩ = some (.int .i64 x397004_12) := (blk_cell BK396.out 4).trans rfl
           have hfz60_0 := blk_frozen BK396.out 0; have hfz60_1 := blk_frozen BK396.out 1; have hfz60_2 := blk_frozen BK396.out 2; have hfz60_3 := blk_frozen BK396.out 3; have hfz60_4 := blk_frozen BK396.out 4; go_wp2
           refine bodyPost_ret (results_ctt rfl _ _ gb396 30 #[.int .i64 0, .int .i64 0, .slice none 0 0, .int .i64 0, .int .i64 0] (0, 0) _ rfl (by (with_reducible repeat (first | refine blk_drewN ?_ _ | refine blk_drew ?_ | refine blk_alloc ?_ _)); refine blk_put (cs := #[.int .i64 0, .int .i64 0, .slice none 0 0, .int .i64 0, .int .i64 x397004_12]) ?_ 4 _ rfl; (with_reducible repeat (first | refine blk_drewN ?_ _ | refine blk_drew ?_ | refine blk_alloc ?_ _)); refine blk_put (cs := #[.int .i64 0, .int .i64 0, .slice none 0 0, .int .i64 x397003_12, .int .i64 x397004_12]) ?_ 3 _ rfl; (with_reducible repeat (first | refine blk_drewN ?_ _ | refine blk_drew ?_ | refine blk_alloc ?_ _)); refine blk_put (cs := #[.int .i64 0, .int .i64 0, .slice none 0 0, .int .i64 x397003_12, .int .i64 x397004_12]) ?_ 2 _ rfl; (with_reducible repeat (first | refine blk_drewN ?_ _ | refine blk_drew ?_ | refine blk_alloc ?_ _)); refine blk_put (cs := #[.int .i64 0, .int .i64 x397001_12, .slice none 0 0, .int .i64 x397003_12, .int .i64 x397004_12]) ?_ 1 _ rfl; (with_reducible repeat (first | refine blk_drewN ?_ _ | refine blk_drew ?_ | refine blk_alloc ?_ _)); refine blk_put (cs := #[.int .i64 x397000_12, .int .i64 x397001_12, .slice none 0 0, .int .i64 x397003_12, .int .i64 x397004_12]) ?_ 0 _ rfl; (with_reducible repeat (first | refine blk_drewN ?_ _ | refine blk_drew ?_ | refine blk_alloc ?_ _)); exact BK396.out) Try.underlying30 rfl (by kernel_rfl)) rfl ?_
           exact ⟨_, by first | rfl | (simp [errW_none, errW_some] <;> rfl) | (simp [*, errW_none, errW_some] <;> rfl), Kd.V_mono (Kd.R_V (Kd.R_nil _ _ _ 0 (fun _ => False))) (fun _ hk => hk.elim), by repeat (first | (with_reducible first | exact HB.out | apply below_alloc | apply pw_below_drewN | apply below_drew1 | refine below_set ?_ GE396.out | refine below_set ?_ GE408.out) | exact HB.out)⟩
          ·replace c58 := Bool.eq_false_iff.mpr c58; subst c58; have H1 : ((repriseref23_Fault.f kj54 a0 (wrap64 (a0 + (wrap64 (t397)))) x409001_12 x409002_12 x409003_12 x409004_12).bind fun t435 => (if t435 = 0 then (some (wrap64 (a0 + (wrap64 (t397))), x409001_12, x409002_12, x409003_12, x409004_12, x10_12, 0)) else (some (0, 0, ([] : List Int), 0, 0, 0, 21)))) = some (r1, r2, r3, r4, r5, r6, r7) := by rw [if_neg (show ¬ (false = true) by decide)] at H; exact H
           clear H; have H := H1; clear H1; replace H := Option.bind_eq_some_iff.mp H; obtain ⟨t435, A610, H⟩ := H; replace H : (if t435 = 0 then (some (wrap64 (a0 + (wrap64 (t397))), x409001_12, x409002_12, x409003_12, x409004_12, x10_12, 0)) else (some (0, 0, ([] : List Int), 0, 0, 0, 21))) = some (r1, r2, r3, r4, r5, r6, r7) := H
           have A61 := Aside0.mk A610; clear A610; by_cases c62 : t435 = 0
           ·rw [if_pos c62] at H
            have c62b0 : (t435 == 0) = true := beq_iff_eq.mpr c62
            have c62b1 : (t435 != 0) = false := bne_eq_false_iff_eq.mpr c62
            clear c62; simp only [Option.some.injEq, Prod.mk.injEq] at H
            obtain ⟨rfl, rfl, rfl, rfl, rfl, rfl, rfl⟩ := H; have hnb63 := NB408_396.out; have hnc63 := NB396_408.out; have hcz64_0 : wc.cell? ⟨gb408, 0, none⟩ = some (.int .i64 x409000_12) := (blk_cell BK408.out 0).trans rfl
            have hcz64_1 : wc.cell? ⟨gb408, 1, none⟩ = some (.int .i64 x409001_12) := (blk_cell BK408.out 1).trans rfl
            have hcz64_2 : wc.cell? ⟨gb408, 2, none⟩ = some (u409002) := (blk_cell BK408.out 2).trans rfl
            have hcz64_3 : wc.cell? ⟨gb408, 3, none⟩ = some (.int .i64 x409003_12) := (blk_cell BK408.out 3).trans rfl
            have hcz64_4 : wc.cell? ⟨gb408, 4, none⟩ = some (.int .i64 x409004_12) := (blk_cell BK408.out 4).trans rfl
            have hfz64_0 := blk_frozen BK408.out 0; have hfz64_1 := blk_frozen BK408.out 1; have hfz64_2 := blk_frozen BK408.out 2; have hfz64_3 := blk_frozen BK408.out 3; have hfz64_4 := blk_frozen BK408.out 4; obtain ⟨Ao65, co65, eo65⟩ := Kd.V_slice HO_409002.out; subst eo65; go_wp2_with (first | ((with_reducible refine gate_callee (f := 25) rfl ?_); refine goesL_ (some 128) rfl rfl Try.func25 (by kernel_rfl) rfl #[.int .i64 a0, .agg #[.int .i64 (wrap64 (a0 + (wrap64 (t397)))), .int .i64 x409001_12, .slice Ao65 x409002_12.length co65, .int .i64 x409003_12, .int .i64 x409004_12]] rfl (by (try simp only [List.map_toArray, List.map_cons, List.map_nil]); first | done | rfl | (simp only [List.length_drop, List.length_take]; rfl)) ?_; (with_reducible refine (repriseref23_Fault.calls kj54 a0 (wrap64 (a0 + (wrap64 (t397)))) x409001_12 _ _ x409002_12 x409003_12 x409004_12 t435 _ ?side1 ?side2 A61.out).mono ?_); (case side1 => refine (Kd.V_reads' (e := 5) (base := w.heap.size) (ok := fun k_ => (((P1_ k_ ∨ w.heap.size ≤ k_)) ∧ (k_ ≠ gb396 ∧ k_ ≠ gb408))) (n := x409002_12.length) (c := co65) ?_).2.2; exact (by (with_reducible repeat (first | apply Kd.V_alloc | apply Kd.V_drewN | apply Kd.V_drew)); exact (Kd.V_mono (Kd.V_far (p := ⟨gb408, 0, none⟩) (Kd.V_mono HO_409002.out (fun k_ hk => (⟨hk, hk.2.2⟩ : _ ∧ k_ ≠ gb408))) (fun _ hk => hk.2) (.int .i64 (wrap64 (a0 + (wrap64 (t397)))))) (fun _ h_ => h_.1)))); (case side2 => exact (Kd.V_reads' HO_409002.out).2.1); rintro e w66 ⟨rfl, hb⟩; refine ⟨_, rfl, ?_⟩; have n0_ := Aside0.mk (Kd.V_below (by (with_reducible repeat (first | apply Kd.V_alloc | apply Kd.V_drewN | apply Kd.V_drew)); exact (Kd.V_mono (Kd.V_far (p := ⟨gb408, 0, none⟩) (Kd.V_mono HO_409002.out (fun k_ hk => (⟨hk, hk.2.2⟩ : _ ∧ k_ ≠ gb408))) (fun _ hk => hk.2) (.int .i64 (wrap64 (a0 + (wrap64 (t397)))))) (fun _ h_ => h_.1))) hb); have n1_ := Aside0.mk (blk_below (g := gb396) (o := .cells #[.int .i64 x397000_12, .int .i64 x397001_12, .slice none 0 0, .int .i64 x397003_12, .int .i64 x397004_12] 30 (0, 0)) (by (with_reducible repeat (first | refine blk_drewN ?_ _ | refine blk_drew ?_ | refine blk_alloc ?_ _)); refine blk_far ?_ NB396_408.out _; (with_reducible repeat (first | refine blk_drewN ?_ _ | refine blk_drew ?_ | refine blk_alloc ?_ _)); exact BK396.out) hb); have n2_ := Aside0.mk (blk_below (g := gb408) (o := .cells #[.int .i64 (wrap64 (a0 + (wrap64 (t397)))), .int .i64 x409001_12, .slice Ao65 x409002_12.length co65, .int .i64 x409003_12, .int .i64 x409004_12] 30 (0, 0)) (by (with_reducible repeat (first | refine blk_drewN ?_ _ | refine blk_drew ?_ | refine blk_alloc ?_ _)); refine blk_put (cs := #[.int .i64 x409000_12, .int .i64 x409001_12, .slice Ao65 x409002_12.length co65, .int .i64 x409003_12, .int .i64 x409004_12]) ?_ 0 _ rfl; (with_reducible repeat (first | refine blk_drewN ?_ _ | refine blk_drew ?_ | refine blk_alloc ?_ _)); exact BK408.out) hb); have n3_ := Aside0.mk (below_step (by repeat (first | (with_reducible first | exact HB.out | apply below_alloc | apply pw_below_drewN | apply below_drew1 | refine below_set ?_ GE396.out | refine below_set ?_ GE408.out) | exact HB.out)) hb); clear HO_409002; clear BK396; clear BK408; clear HB; have HO_409002 := n0_; have BK396 := n1_; have BK408 := n2_; have HB := n3_; clear n0_ n1_ n2_ n3_; (try clear hb); (try clear hb2); (try clear hk); (try clear hi); have hcz67_0 : w66.cell? ⟨gb408, 0, none⟩ = some (.int .i64 (wrap64 (a0 + (wrap64 (t397))))) := (blk_cell BK408.out 0).trans rfl; have hcz67_1 : w66.cell? ⟨gb408, 1, none⟩ = some (.int .i64 x409001_12) := (blk_cell BK408.out 1).trans rfl; have hcz67_2 : w66.cell? ⟨gb408, 2, none⟩ = some (.slice Ao65 x409002_12.length co65) := (blk_cell BK408.out 2).trans rfl; have hcz67_3 : w66.cell? ⟨gb408, 3, none⟩ = some (.int .i64 x409003_12) := (blk_cell BK408.out 3).trans rfl; have hcz67_4 : w66.cell? ⟨gb408, 4, none⟩ = some (.int .i64 x409004_12) := (blk_cell BK408.out 4).trans rfl; have hfz67_0 := blk_frozen BK408.out 0; have hfz67_1 := blk_frozen BK408.out 1; have hfz67_2 := blk_frozen BK408.out 2; have hfz67_3 := blk_frozen BK408.out 3; have hfz67_4 := blk_frozen BK408.out 4; have hcz68_0 : w66.cell? ⟨gb396, 0, none⟩ = some (.int .i64 x397000_12) := (blk_cell BK396.out 0).trans rfl; have hcz68_1 : w66.cell? ⟨gb396, 1, none⟩ = some (.int .i64 x397001_12) := (blk_cell BK396.out 1).trans rfl; have hcz68_2 : w66.cell? ⟨gb396, 2, none⟩ = some (.slice none 0 0) := (blk_cell BK396.out 2).trans rfl; have hcz68_3 : w66.cell? ⟨gb396, 3, none⟩ = some (.int .i64 x397003_12) := (blk_cell BK396.out 3).trans rfl; have hcz68_4 : w66.cell? ⟨gb396, 4, none⟩ = some (.int .i64 x397004_12) := (blk_cell BK396.out 4).trans rfl; have hfz68_0 := blk_frozen BK396.out 0; have hfz68_1 := blk_frozen BK396.out 1; have hfz68_2 := blk_frozen BK396.out 2; have hfz68_3 := blk_frozen BK396.out 3; have hfz68_4 := blk_frozen BK396.out 4))
            refine bodyPost_ret (results_ctt rfl _ _ gb396 30 #[.int .i64 (wrap64 (a0 + (wrap64 (t397)))), .int .i64 x409001_12, .slice Ao65 x409002_12.length co65, .int .i64 x409003_12, .int .i64 x409004_12] (0, 0) _ rfl (by (with_reducible repeat (first | refine blk_drewN ?_ _ | refine blk_drew ?_ | refine blk_alloc ?_ _)); refine blk_put (cs := #[.int .i64 (wrap64 (a0 + (wrap64 (t397)))), .int .i64 x409001_12, .slice Ao65 x409002_12.length co65, .int .i64 x409003_12, .int .i64 x397004_12]) ?_ 4 _ rfl; (with_reducible repeat (first | refine blk_drewN ?_ _ | refine blk_drew ?_ | refine blk_alloc ?_ _)); refine blk_put (cs := #[.int .i64 (wrap64 (a0 + (wrap64 (t397)))), .int .i64 x409001_12, .slice Ao65 x409002_12.length co65, .int .i64 x397003_12, .int .i64 x397004_12]) ?_ 3 _ rfl; (with_reducible repeat (first | refine blk_drewN ?_ _ | refine blk_drew ?_ | refine blk_alloc ?_ _)); refine blk_put (cs := #[.int .i64 (wrap64 (a0 + (wrap64 (t397)))), .int .i64 x409001_12, .slice none 0 0, .int .i64 x397003_12, .int .i64 x397004_12]) ?_ 2 _ rfl; (with_reducible repeat (first | refine blk_drewN ?_ _ | refine blk_drew ?_ | refine blk_alloc ?_ _)); refine blk_put (cs := #[.int .i64 (wrap64 (a0 + (wrap64 (t397)))), .int .i64 x397001_12, .slice none 0 0, .int .i64 x397003_12, .int .i64 x397004_12]) ?_ 1 _ rfl; (with_reducible repeat (first | refine blk_drewN ?_ _ | refine blk_drew ?_ | refine blk_alloc ?_ _)); refine blk_put (cs := #[.int .i64 x397000_12, .int .i64 x397001_12, .slice none 0 0, .int .i64 x397003_12, .int .i64 x397004_12]) ?_ 0 _ rfl; (with_reducible repeat (first | refine blk_drewN ?_ _ | refine blk_drew ?_ | refine blk_alloc ?_ _)); exact BK396.out) Try.underlying30 rfl (by kernel_rfl)) rfl ?_
            exact ⟨_, by first | rfl | (simp [errW_none, errW_some] <;> rfl) | (simp [*, errW_none, errW_some] <;> rfl), by (with_reducible repeat (first | apply Kd.V_alloc | apply Kd.V_drewN | apply Kd.V_drew)); exact Kd.V_mono (Kd.V_far (p := ⟨gb396, 4, none⟩) (Kd.V_far (p := ⟨gb396, 3, none⟩) (Kd.V_far (p := ⟨gb396, 2, none⟩) (Kd.V_far (p := ⟨gb396, 1, none⟩) (Kd.V_far (p := ⟨gb396, 0, none⟩) (Kd.V_mono HO_409002.out (fun k_ hk => (⟨hk, hk.2.1⟩ : _ ∧ k_ ≠ gb396))) (fun _ hk => hk.2) (.int .i64 (wrap64 (a0 + (wrap64 (t397)))))) (fun _ hk => hk.2) (.int .i64 x409001_12)) (fun _ hk => hk.2) (.slice Ao65 x409002_12.length co65)) (fun _ hk => hk.2) (.int .i64 x409003_12)) (fun _ hk => hk.2) (.int .i64 x409004_12)) (fun _ hk => hk.1.1), by repeat (first | (with_reducible first | exact HB.out | apply below_alloc | apply pw_below_drewN | apply below_drew1 | refine below_set ?_ GE396.out | refine below_set ?_ GE408.out) | exact HB.out)⟩
           ·rw [if_neg c62] at H
            have c62b0 : (t435 == 0) = false := beq_eq_false_iff_ne.mpr c62
            have c62b1 : (t435 != 0) = true := bne_iff_ne.mpr c62
            simp only [Option.some.injEq, Prod.mk.injEq] at H
            obtain ⟨rfl, rfl, rfl, rfl, rfl, rfl, rfl⟩ := H; have hnb69 := NB408_396.out; have hnc69 := NB396_408.out; have hcz70_0 : wc.cell? ⟨gb408, 0, none⟩ = some (.int .i64 x409000_12) := (blk_cell BK408.out 0).trans rfl
            have hcz70_1 : wc.cell? ⟨gb408, 1, none⟩ = some (.int .i64 x409001_12) := (blk_cell BK408.out 1).trans rfl
            have hcz70_2 : wc.cell? ⟨gb408, 2, none⟩ = some (u409002) := (blk_cell BK408.out 2).trans rfl
            have hcz70_3 : wc.cell? ⟨gb408, 3, none⟩ = some (.int .i64 x409003_12) := (blk_cell BK408.out 3).trans rfl
            have hcz70_4 : wc.cell? ⟨gb408, 4, none⟩ = some (.int .i64 x409004_12) := (blk_cell BK408.out 4).trans rfl
            have hfz70_0 := blk_frozen BK408.out 0; have hfz70_1 := blk_frozen BK408.out 1; have hfz70_2 := blk_frozen BK408.out 2; have hfz70_3 := blk_frozen BK408.out 3; have hfz70_4 := blk_frozen BK408.out 4; obtain ⟨Ao71, co71, eo71⟩ := Kd.V_slice HO_409002.out; subst eo71; go_wp2_with (first | ((with_reducible refine gate_callee (f := 25) rfl ?_); refine goesL_ (some 128) rfl rfl Try.func25 (by kernel_rfl) rfl #[.int .i64 a0, .agg #[.int .i64 (wrap64 (a0 + (wrap64 (t397)))), .int .i64 x409001_12, .slice Ao71 x409002_12.length co71, .int .i64 x409003_12, .int .i64 x409004_12]] rfl (by (try simp only [List.map_toArray, List.map_cons, List.map_nil]); first | done | rfl | (simp only [List.length_drop, List.length_take]; rfl)) ?_; (with_reducible refine (repriseref23_Fault.calls kj54 a0 (wrap64 (a0 + (wrap64 (t397)))) x409001_12 _ _ x409002_12 x409003_12 x409004_12 t435 _ ?side1 ?side2 A61.out).mono ?_); (case side1 => refine (Kd.V_reads' (e := 5) (base := w.heap.size) (ok := fun k_ => (((P1_ k_ ∨ w.heap.size ≤ k_)) ∧ (k_ ≠ gb396 ∧ k_ ≠ gb408))) (n := x409002_12.length) (c := co71) ?_).2.2; exact (by (with_reducible repeat (first | apply Kd.V_alloc | apply Kd.V_drewN | apply Kd.V_drew)); exact (Kd.V_mono (Kd.V_far (p := ⟨gb408, 0, none⟩) (Kd.V_mono HO_409002.out (fun k_ hk => (⟨hk, hk.2.2⟩ : _ ∧ k_ ≠ gb408))) (fun _ hk => hk.2) (.int .i64 (wrap64 (a0 + (wrap64 (t397)))))) (fun _ h_ => h_.1)))); (case side2 => exact (Kd.V_reads' HO_409002.out).2.1); rintro e w72 ⟨rfl, hb⟩; refine ⟨_, rfl, ?_⟩; have n0_ := Aside0.mk (Kd.V_below (by (with_reducible repeat (first | apply Kd.V_alloc | apply Kd.V_drewN | apply Kd.V_drew)); exact (Kd.V_mono (Kd.V_far (p := ⟨gb408, 0, none⟩) (Kd.V_mono HO_409002.out (fun k_ hk => (⟨hk, hk.2.2⟩ : _ ∧ k_ ≠ gb408))) (fun _ hk => hk.2) (.int .i64 (wrap64 (a0 + (wrap64 (t397)))))) (fun _ h_ => h_.1))) hb); have n1_ := Aside0.mk (blk_below (g := gb396) (o := .cells #[.int .i64 x397000_12, .int .i64 x397001_12, .slice none 0 0, .int .i64 x397003_12, .int .i64 x397004_12] 30 (0, 0)) (by (with_reducible repeat (first | refine blk_drewN ?_ _ | refine blk_drew ?_ | refine blk_alloc ?_ _)); refine blk_far ?_ NB396_408.out _; (with_reducible repeat (first | refine blk_drewN ?_ _ | refine blk_drew ?_ | refine blk_alloc ?_ _)); exact BK396.out) hb); have n2_ := Aside0.mk (blk_below (g := gb408) (o := .cells #[.int .i64 (wrap64 (a0 + (wrap64 (t397)))), .int .i64 x409001_12, .slice Ao71 x409002_12.length co71, .int .i64 x409003_12, .int .i64 x409004_12] 30 (0, 0)) (by (with_reducible repeat (first | refine blk_drewN ?_ _ | refine blk_drew ?_ | refine blk_alloc ?_ _)); refine blk_put (cs := #[.int .i64 x409000_12, .int .i64 x409001_12, .slice Ao71 x409002_12.length co71, .int .i64 x409003_12, .int .i64 x409004_12]) ?_ 0 _ rfl; (with_reducible repeat (first | refine blk_drewN ?_ _ | refine blk_drew ?_ | refine blk_alloc ?_ _)); exact BK408.out) hb); have n3_ := Aside0.mk (below_step (by repeat (first | (with_reducible first | exact HB.out | apply below_alloc | apply pw_below_drewN | apply below_drew1 | refine below_set ?_ GE396.out | refine below_set ?_ GE408.out) | exact HB.out)) hb); clear HO_409002; clear BK396; clear BK408; clear HB; have HO_409002 := n0_; have BK396 := n1_; have BK408 := n2_; have HB := n3_; clear n0_ n1_ n2_ n3_; (try clear hb); (try clear hb2); (try clear hk); (try clear hi); have hcz73_0 : w72.cell? ⟨gb396, 0, none⟩ = some (.int .i64 x397000_12) := (blk_cell BK396.out 0).trans rfl; have hcz73_1 : w72.cell? ⟨gb396, 1, none⟩ = some (.int .i64 x397001_12) := (blk_cell BK396.out 1).trans rfl; have hcz73_2 : w72.cell? ⟨gb396, 2, none⟩ = some (.slice none 0 0) := (blk_cell BK396.out 2).trans rfl; have hcz73_3 : w72.cell? ⟨gb396, 3, none⟩ = some (.int .i64 x397003_12) := (blk_cell BK396.out 3).trans rfl; have hcz73_4 : w72.cell? ⟨gb396, 4, none⟩ = some (.int .i64 x397004_12) := (blk_cell BK396.out 4).trans rfl; have hfz73_0 := blk_frozen BK396.out 0; have hfz73_1 := blk_frozen BK396.out 1; have hfz73_2 := blk_frozen BK396.out 2; have hfz73_3 := blk_frozen BK396.out 3; have hfz73_4 := blk_frozen BK396.out 4))
            refine bodyPost_ret (results_ctt rfl _ _ gb396 30 #[.int .i64 0, .int .i64 0, .slice none 0 0, .int .i64 0, .int .i64 0] (0, 0) _ rfl (by (with_reducible repeat (first | refine blk_drewN ?_ _ | refine blk_drew ?_ | refine blk_alloc ?_ _)); refine blk_put (cs := #[.int .i64 0, .int .i64 0, .slice none 0 0, .int .i64 0, .int .i64 x397004_12]) ?_ 4 _ rfl; (with_reducible repeat (first | refine blk_drewN ?_ _ | refine blk_drew ?_ | refine blk_alloc ?_ _)); refine blk_put (cs := #[.int .i64 0, .int .i64 0, .slice none 0 0, .int .i64 x397003_12, .int .i64 x397004_12]) ?_ 3 _ rfl; (with_reducible repeat (first | refine blk_drewN ?_ _ | refine blk_drew ?_ | refine blk_alloc ?_ _)); refine blk_put (cs := #[.int .i64 0, .int .i64 0, .slice none 0 0, .int .i64 x397003_12, .int .i64 x397004_12]) ?_ 2 _ rfl; (with_reducible repeat (first | refine blk_drewN ?_ _ | refine blk_drew ?_ | refine blk_alloc ?_ _)); refine blk_put (cs := #[.int .i64 0, .int .i64 x397001_12, .slice none 0 0, .int .i64 x397003_12, .int .i64 x397004_12]) ?_ 1 _ rfl; (with_reducible repeat (first | refine blk_drewN ?_ _ | refine blk_drew ?_ | refine blk_alloc ?_ _)); refine blk_put (cs := #[.int .i64 x397000_12, .int .i64 x397001_12, .slice none 0 0, .int .i64 x397003_12, .int .i64 x397004_12]) ?_ 0 _ rfl; (with_reducible repeat (first | refine blk_drewN ?_ _ | refine blk_drew ?_ | refine blk_alloc ?_ _)); exact BK396.out) Try.underlying30 rfl (by kernel_rfl)) rfl ?_
            exact ⟨_, by first | rfl | (simp [errW_none, errW_some] <;> rfl) | (simp [*, errW_none, errW_some] <;> rfl), Kd.V_mono (Kd.R_V (Kd.R_nil _ _ _ 0 (fun _ => False))) (fun _ hk => hk.elim), by repeat (first | (with_reducible first | exact HB.out | apply below_alloc | apply pw_below_drewN | apply below_drew1 | refine below_set ?_ GE396.out | refine below_set ?_ GE408.out) | exact HB.out)⟩
    ·rw [if_neg c8] at H
     have c8b0 : (t407 == 0) = false := beq_eq_false_iff_ne.mpr c8
     have c8b1 : (t407 != 0) = true := bne_iff_ne.mpr c8
     simp only [Option.some.injEq, Prod.mk.injEq] at H
     obtain ⟨rfl, rfl, rfl, rfl, rfl, rfl, rfl⟩ := H; go_enter Try.func15, Try.ntmps15
     go_wp2_with (first | ((with_reducible refine gate_dst (N := 4) rfl ?_); refine box_event ?hg (N := 4) ?hd (cs := #[.int .i64 0, .int .i64 0, .slice none 0 0, .int .i64 0, .int .i64 0]) (t := 30) ?hr ?_; (case hd => rfl); (case hg => rfl); (case hr => first | (go_simp; done) | (go_simp; rfl)); intro gb396 hg w74 hbox hb; have n0_ := Aside0.mk (Kd.V_below (Kd.V_elderB (by (with_reducible repeat (first | apply Kd.V_alloc | apply Kd.V_drewN | apply Kd.V_drew)); exact HO1.out) gb396 (Nat.le_of_eq hg.symm)) hb); have n1_ := Aside0.mk (below_step (by repeat (first | (with_reducible first | exact HB.out | apply below_alloc | apply pw_below_drewN | apply below_drew1) | exact HB.out)) hb); have n2_ := Aside0.mk (hbox); have n3_ := Aside0.mk ((by rw [hg]; exact (below_size (by repeat (first | (with_reducible first | exact HB.out | apply below_alloc | apply pw_below_drewN | apply below_drew1) | exact HB.out))) : w.heap.size ≤ gb396)); have n4_ := Aside0.mk ((by rw [hg]; exact (below_size (by repeat (first | (with_reducible first | exact HB.out | apply below_alloc | apply pw_below_drewN | apply below_drew1) | exact HB.out))) : w.heap.size ≤ gb396)); clear HO1; clear HB; have HO1 := n0_; have HB := n1_; have BK396 := n2_; have GW396 := n3_; have GE396 := n4_; clear n0_ n1_ n2_ n3_ n4_; clear hb hbox hg) | ((with_reducible refine gate_callee (f := 38) rfl ?_); refine goesL_ (some 22) rfl rfl Try.func38 (by kernel_rfl) rfl #[.slice A1 l1.length c1] rfl (by (try simp only [List.map_toArray, List.map_cons, List.map_nil]); first | done | rfl | (simp only [List.length_drop, List.length_take]; rfl)) ?_; (with_reducible refine (repriseref1_Read.calls k _ _ l1 t397 t398 t399 _ ?side1 ?side2 A3.out).mono ?_); (case side1 => repeat (first | exact (Kd.V_reads' HO1.out).2.2 | (with_reducible refine Kd.C_alloc ?_ _) | (with_reducible refine Kd.C_drewN ?_ _) | (with_reducible refine Kd.C_drew ?_))); (case side2 => exact (Kd.V_reads' HO1.out).2.1); rintro e w' ⟨rfl, ⟨nd, rfl⟩⟩; refine ⟨_, rfl, ?_⟩; (try (rw [drewN_self w74]; generalize hq_ : World.drewN w74 _ = w74; have n0_ : Aside0 (Kd.V (Kd.int .u8) 5 w74 w.heap.size (fun k_ => (P1_ k_ ∨ w.heap.size ≤ k_) ∧ k_ ≠ gb396) (.slice A1 l1.length c1) l1) := ⟨by rw [← hq_]; exact (by (with_reducible repeat (first | apply Kd.V_alloc | apply Kd.V_drewN | apply Kd.V_drew)); exact HO1.out)⟩; have n1_ : Aside0 (w74.heap[gb396]? = some (.cells #[.int .i64 0, .int .i64 0, .slice none 0 0, .int .i64 0, .int .i64 0] 30 (0, 0))) := ⟨by rw [← hq_]; exact (by (with_reducible repeat (first | refine blk_drewN ?_ _ | refine blk_drew ?_ | refine blk_alloc ?_ _)); exact BK396.out)⟩; have n2_ : Aside0 (Below w.heap.size w w74) := ⟨by rw [← hq_]; exact (by repeat (first | (with_reducible first | exact HB.out | apply below_alloc | apply pw_below_drewN | apply below_drew1 | refine below_set ?_ GE396.out) | exact HB.out))⟩; clear HO1 BK396 HB hq_; have HO1 := n0_; have BK396 := n1_; have HB := n2_; clear n0_ n1_ n2_)); have q75 : (t398 : Int) ≤ ((l1.length : Int) : Int) := of_decide_eq_true (by first | (with_reducible assumption) | assumption); obtain ⟨i075, hi075, _, hsz75, _⟩ := info_parts info5; have hroom75 : l1.length ≤ c1 := (Kd.V_reads' HO1.out).2.1; have hC75 : Kd.F (Kd.int .u8) _ _ A1 l1.length l1 := (Kd.V_at (base := w.heap.size) HO1.out).2.2; have q075 : (0 : Int) ≤ (t398 : Int) := of_decide_eq_true (by first | (with_reducible assumption) | assumption); have hcut75 := cut_from (P := Try.prog) 22 5 .i64 Try.underlying22 hi075 1 hsz75 A1 l1.length c1 t398 q075 q75; have hr75 := Kd.F_cut (m := (t398 : Int).toNat) (c := c1) hC75 (by omega) hroom75; obtain ⟨A75, hA75⟩ : ∃ Az_, Az_ = (if c1 = (t398 : Int).toNat then A1 else (A1 : Option Addr).map (·.add ((t398 : Int).toNat * 1))) := ⟨_, rfl⟩; obtain ⟨c75, hc75⟩ : ∃ cz_, cz_ = c1 - (t398 : Int).toNat := ⟨_, rfl⟩; have hy75 : y400.length = l1.length - (t398 : Int).toNat := (by rw [Ny400.out, List.length_drop] <;> omega); rw [show (l1).drop (t398 : Int).toNat = y400 from Ny400.out.symm] at hr75; replace hr75 : Kd.F (Kd.int .u8) _ _ A75 y400.length y400 := (by rw [hA75]; exact hr75); rw [← hy75, ← hA75, ← hc75] at hcut75; have HO404 := Aside0.mk (show Kd.V (Kd.int .u8) 5 _ w.heap.size _ (.slice A75 y400.length c75) y400 from Kd.V_mk (by rw [hy75, hc75]; exact Nat.sub_le_sub_right hroom75 _) hr75); have HC404 := Aside0.mk (show y400.length ≤ c75 from by rw [hy75, hc75]; exact Nat.sub_le_sub_right hroom75 _); clear hr75 hC75 hroom75 hi075 hsz75 hc75; have KY75 := Aside0.mk hy75; have KA75 := Aside0.mk hA75; clear hy75 hA75; replace q75 := eq_true q75) | ((with_reducible refine gate_callee (f := 38) rfl ?_); refine goesL_ (some 35) rfl rfl Try.func38 (by kernel_rfl) rfl #[.slice A75 y400.length c75] rfl (by (try simp only [List.map_toArray, List.map_cons, List.map_nil]); first | done | rfl | (simp only [List.length_drop, List.length_take]; rfl)) ?_; (with_reducible refine (repriseref1_Read.calls k _ _ y400 t405 t406 t407 _ ?side1 ?side2 A7.out).mono ?_); (case side1 => repeat (first | exact (Kd.V_reads' HO404.out).2.2 | (with_reducible refine Kd.C_alloc ?_ _) | (with_reducible refine Kd.C_drewN ?_ _) | (with_reducible refine Kd.C_drew ?_))); (case side2 => exact (Kd.V_reads' HO404.out).2.1); rintro e w' ⟨rfl, ⟨nd, rfl⟩⟩; refine ⟨_, rfl, ?_⟩; (try (rw [drewN_self w74]; generalize hq_ : World.drewN w74 _ = w74; have n0_ : Aside0 (Kd.V (Kd.int .u8) 5 w74 w.heap.size (fun k_ => (P1_ k_ ∨ w.heap.size ≤ k_) ∧ k_ ≠ gb396) (.slice A1 l1.length c1) l1) := ⟨by rw [← hq_]; exact (by (with_reducible repeat (first | apply Kd.V_alloc | apply Kd.V_drewN | apply Kd.V_drew)); exact HO1.out)⟩; have n1_ : Aside0 (Kd.V (Kd.int .u8) 5 w74 w.heap.size (fun k_ => (P1_ k_ ∨ w.heap.size ≤ k_) ∧ k_ ≠ gb396) (.slice A75 y400.length c75) y400) := ⟨by rw [← hq_]; exact (by (with_reducible repeat (first | apply Kd.V_alloc | apply Kd.V_drewN | apply Kd.V_drew)); exact HO404.out)⟩; have n2_ : Aside0 (w74.heap[gb396]? = some (.cells #[.int .i64 0, .int .i64 0, .slice none 0 0, .int .i64 0, .int .i64 0] 30 (0, 0))) := ⟨by rw [← hq_]; exact (by (with_reducible repeat (first | refine blk_drewN ?_ _ | refine blk_drew ?_ | refine blk_alloc ?_ _)); exact BK396.out)⟩; have n3_ : Aside0 (Below w.heap.size w w74) := ⟨by rw [← hq_]; exact (by repeat (first | (with_reducible first | exact HB.out | apply below_alloc | apply pw_below_drewN | apply below_drew1 | refine below_set ?_ GE396.out) | exact HB.out))⟩; clear HO1 HO404 BK396 HB hq_; have HO1 := n0_; have HO404 := n1_; have BK396 := n2_; have HB := n3_; clear n0_ n1_ n2_ n3_)); have hcz76_0 : w74.cell? ⟨gb396, 0, none⟩ = some (.int .i64 0) := (blk_cell BK396.out 0).trans rfl; have hcz76_1 : w74.cell? ⟨gb396, 1, none⟩ = some (.int .i64 0) := (blk_cell BK396.out 1).trans rfl; have hcz76_2 : w74.cell? ⟨gb396, 2, none⟩ = some (.slice none 0 0) := (blk_cell BK396.out 2).trans rfl; have hcz76_3 : w74.cell? ⟨gb396, 3, none⟩ = some (.int .i64 0) := (blk_cell BK396.out 3).trans rfl; have hcz76_4 : w74.cell? ⟨gb396, 4, none⟩ = some (.int .i64 0) := (blk_cell BK396.out 4).trans rfl; have hfz76_0 := blk_frozen BK396.out 0; have hfz76_1 := blk_frozen BK396.out 1; have hfz76_2 := blk_frozen BK396.out 2; have hfz76_3 := blk_frozen BK396.out 3; have hfz76_4 := blk_frozen BK396.out 4))
     refine bodyPost_ret (results_ctt rfl _ _ gb396 30 #[.int .i64 0, .int .i64 0, .slice none 0 0, .int .i64 0, .int .i64 0] (0, 0) _ rfl (by (with_reducible repeat (first | refine blk_drewN ?_ _ | refine blk_drew ?_ | refine blk_alloc ?_ _)); refine blk_put (cs := #[.int .i64 0, .int .i64 0, .slice none 0 0, .int .i64 0, .int .i64 0]) ?_ 4 _ rfl; (with_reducible repeat (first | refine blk_drewN ?_ _ | refine blk_drew ?_ | refine blk_alloc ?_ _)); refine blk_put (cs := #[.int .i64 0, .int .i64 0, .slice none 0 0, .int .i64 0, .int .i64 0]) ?_ 3 _ rfl; (with_reducible repeat (first | refine blk_drewN ?_ _ | refine blk_drew ?_ | refine blk_alloc ?_ _)); refine blk_put (cs := #[.int .i64 0, .int .i64 0, .slice none 0 0, .int .i64 0, .int .i64 0]) ?_ 2 _ rfl; (with_reducible repeat (first | refine blk_drewN ?_ _ | refine blk_drew ?_ | refine blk_alloc ?_ _)); refine blk_put (cs := #[.int .i64 0, .int .i64 0, .slice none 0 0, .int .i64 0, .int .i64 0]) ?_ 1 _ rfl; (with_reducible repeat (first | refine blk_drewN ?_ _ | refine blk_drew ?_ | refine blk_alloc ?_ _)); refine blk_put (cs := #[.int .i64 0, .int .i64 0, .slice none 0 0, .int .i64 0, .int .i64 0]) ?_ 0 _ rfl; (with_reducible repeat (first | refine blk_drewN ?_ _ | refine blk_drew ?_ | refine blk_alloc ?_ _)); exact BK396.out) Try.underlying30 rfl (by kernel_rfl)) rfl ?_
     exact ⟨_, by first | rfl | (simp [errW_none, errW_some] <;> rfl) | (simp [*, errW_none, errW_some] <;> rfl), Kd.V_mono (Kd.R_V (Kd.R_nil _ _ _ 0 (fun _ => False))) (fun _ hk => hk.elim), by repeat (first | (with_reducible first | exact HB.out | apply below_alloc | apply pw_below_drewN | apply below_drew1 | refine below_set ?_ GE396.out) | exact HB.out)⟩
   ·rw [if_neg c6] at H
    exact absurd H (by simp)
  ·rw [if_neg c5] at H
   exact absurd H (by simp)
 ·rw [if_neg c4] at H
  have c4b0 : (t399 == 0) = false := beq_eq_false_iff_ne.mpr c4
  have c4b1 : (t399 != 0) = true := bne_iff_ne.mpr c4
  simp only [Option.some.injEq, Prod.mk.injEq] at H
  obtain ⟨rfl, rfl, rfl, rfl, rfl, rfl, rfl⟩ := H; go_enter Try.func15, Try.ntmps15
  go_wp2_with (first | ((with_reducible refine gate_dst (N := 4) rfl ?_); refine box_event ?hg (N := 4) ?hd (cs := #[.int .i64 0, .int .i64 0, .slice none 0 0, .int .i64 0, .int .i64 0]) (t := 30) ?hr ?_; (case hd => rfl); (case hg => rfl); (case hr => first | (go_simp; done) | (go_simp; rfl)); intro gb396 hg w77 hbox hb; have n0_ := Aside0.mk (Kd.V_below (Kd.V_elderB (by (with_reducible repeat (first | apply Kd.V_alloc | apply Kd.V_drewN | apply Kd.V_drew)); exact HO1.out) gb396 (Nat.le_of_eq hg.symm)) hb); have n1_ := Aside0.mk (below_step (by repeat (first | (with_reducible first | exact HB.out | apply below_alloc | apply pw_below_drewN | apply below_drew1) | exact HB.out)) hb); have n2_ := Aside0.mk (hbox); have n3_ := Aside0.mk ((by rw [hg]; exact (below_size (by repeat (first | (with_reducible first | exact HB.out | apply below_alloc | apply pw_below_drewN | apply below_drew1) | exact HB.out))) : w.heap.size ≤ gb396)); have n4_ := Aside0.mk ((by rw [hg]; exact (below_size (by repeat (first | (with_reducible first | exact HB.out | apply below_alloc | apply pw_below_drewN | apply below_drew1) | exact HB.out))) : w.heap.size ≤ gb396)); clear HO1; clear HB; have HO1 := n0_; have HB := n1_; have BK396 := n2_; have GW396 := n3_; have GE396 := n4_; clear n0_ n1_ n2_ n3_ n4_; clear hb hbox hg) | ((with_reducible refine gate_callee (f := 38) rfl ?_); refine goesL_ (some 22) rfl rfl Try.func38 (by kernel_rfl) rfl #[.slice A1 l1.length c1] rfl (by (try simp only [List.map_toArray, List.map_cons, List.map_nil]); first | done | rfl | (simp only [List.length_drop, List.length_take]; rfl)) ?_; (with_reducible refine (repriseref1_Read.calls k _ _ l1 t397 t398 t399 _ ?side1 ?side2 A3.out).mono ?_); (case side1 => repeat (first | exact (Kd.V_reads' HO1.out).2.2 | (with_reducible refine Kd.C_alloc ?_ _) | (with_reducible refine Kd.C_drewN ?_ _) | (with_reducible refine Kd.C_drew ?_))); (case side2 => exact (Kd.V_reads' HO1.out).2.1); rintro e w' ⟨rfl, ⟨nd, rfl⟩⟩; refine ⟨_, rfl, ?_⟩; (try (rw [drewN_self w77]; generalize hq_ : World.drewN w77 _ = w77; have n0_ : Aside0 (Kd.V (Kd.int .u8) 5 w77 w.heap.size (fun k_ => (P1_ k_ ∨ w.heap.size ≤ k_) ∧ k_ ≠ gb396) (.slice A1 l1.length c1) l1) := ⟨by rw [← hq_]; exact (by (with_reducible repeat (first | apply Kd.V_alloc | apply Kd.V_drewN | apply Kd.V_drew)); exact HO1.out)⟩; have n1_ : Aside0 (w77.heap[gb396]? = some (.cells #[.int .i64 0, .int .i64 0, .slice none 0 0, .int .i64 0, .int .i64 0] 30 (0, 0))) := ⟨by rw [← hq_]; exact (by (with_reducible repeat (first | refine blk_drewN ?_ _ | refine blk_drew ?_ | refine blk_alloc ?_ _)); exact BK396.out)⟩; have n2_ : Aside0 (Below w.heap.size w w77) := ⟨by rw [← hq_]; exact (by repeat (first | (with_reducible first | exact HB.out | apply below_alloc | apply pw_below_drewN | apply below_drew1 | refine below_set ?_ GE396.out) | exact HB.out))⟩; clear HO1 BK396 HB hq_; have HO1 := n0_; have BK396 := n1_; have HB := n2_; clear n0_ n1_ n2_)); have hcz78_0 : w77.cell? ⟨gb396, 0, none⟩ = some (.int .i64 0) := (blk_cell BK396.out 0).trans rfl; have hcz78_1 : w77.cell? ⟨gb396, 1, none⟩ = some (.int .i64 0) := (blk_cell BK396.out 1).trans rfl; have hcz78_2 : w77.cell? ⟨gb396, 2, none⟩ = some (.slice none 0 0) := (blk_cell BK396.out 2).trans rfl; have hcz78_3 : w77.cell? ⟨gb396, 3, none⟩ = some (.int .i64 0) := (blk_cell BK396.out 3).trans rfl; have hcz78_4 : w77.cell? ⟨gb396, 4, none⟩ = some (.int .i64 0) := (blk_cell BK396.out 4).trans rfl; have hfz78_0 := blk_frozen BK396.out 0; have hfz78_1 := blk_frozen BK396.out 1; have hfz78_2 := blk_frozen BK396.out 2; have hfz78_3 := blk_frozen BK396.out 3; have hfz78_4 := blk_frozen BK396.out 4))
  refine bodyPost_ret (results_ctt rfl _ _ gb396 30 #[.int .i64 0, .int .i64 0, .slice none 0 0, .int .i64 0, .int .i64 0] (0, 0) _ rfl (by (with_reducible repeat (first | refine blk_drewN ?_ _ | refine blk_drew ?_ | refine blk_alloc ?_ _)); refine blk_put (cs := #[.int .i64 0, .int .i64 0, .slice none 0 0, .int .i64 0, .int .i64 0]) ?_ 4 _ rfl; (with_reducible repeat (first | refine blk_drewN ?_ _ | refine blk_drew ?_ | refine blk_alloc ?_ _)); refine blk_put (cs := #[.int .i64 0, .int .i64 0, .slice none 0 0, .int .i64 0, .int .i64 0]) ?_ 3 _ rfl; (with_reducible repeat (first | refine blk_drewN ?_ _ | refine blk_drew ?_ | refine blk_alloc ?_ _)); refine blk_put (cs := #[.int .i64 0, .int .i64 0, .slice none 0 0, .int .i64 0, .int .i64 0]) ?_ 2 _ rfl; (with_reducible repeat (first | refine blk_drewN ?_ _ | refine blk_drew ?_ | refine blk_alloc ?_ _)); refine blk_put (cs := #[.int .i64 0, .int .i64 0, .slice none 0 0, .int .i64 0, .int .i64 0]) ?_ 1 _ rfl; (with_reducible repeat (first | refine blk_drewN ?_ _ | refine blk_drew ?_ | refine blk_alloc ?_ _)); refine blk_put (cs := #[.int .i64 0, .int .i64 0, .slice none 0 0, .int .i64 0, .int .i64 0]) ?_ 0 _ rfl; (with_reducible repeat (first | refine blk_drewN ?_ _ | refine blk_drew ?_ | refine blk_alloc ?_ _)); exact BK396.out) Try.underlying30 rfl (by kernel_rfl)) rfl ?_
  exact ⟨_, by first | rfl | (simp [errW_none, errW_some] <;> rfl) | (simp [*, errW_none, errW_some] <;> rfl), Kd.V_mono (Kd.R_V (Kd.R_nil _ _ _ 0 (fun _ => False))) (fun _ hk => hk.elim), by repeat (first | (with_reducible first | exact HB.out | apply below_alloc | apply pw_below_drewN | apply below_drew1 | refine below_set ?_ GE396.out) | exact HB.out)⟩
end Go.Proofs.Ytmaefdeigienjaa.QEventReads
