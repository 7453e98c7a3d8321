/- Lean functions for the Go functions that the law reaches, and proofs that each call comes to just what its Lean function tells; no condition. (Written by a program of this session.) -/
import Derived.Test.YtmaefdeigienjaaQEventReadsx0
import Derived.Test.YtmaefdeigienjaaQEventReadsx5
import Derived.Test.YtmaefdeigienjaaQEventReadsx6
import Derived.Test.YtmaefdeigienjaaQEventReadsx8
import Derived.Test.YtmaefdeigienjaaQEventReadsx10
import Derived.Test.YtmaefdeigienjaaQEventReadsx12
import Derived.Test.YtmaefdeigienjaaQEventReadsx13
namespace Go.Proofs.Ytmaefdeigienjaa.QEventReads
open Go.RowKit Go.Proofs.YtmaefdeigienjaaW.PrintWords Go.Proofs.YtmaefdeigienjaaW.PrintLast Go.Proofs.YtmaefdeigienjaaW.PrintMore
attribute [local go_sem] max2_int min2_int max_two min_two max_three min_three max_four min_four   -- for this text's walks alone
set_option linter.unusedVariables false
set_option linter.unusedSimpArgs false
/-! ### repriselaw23_EventReads: function 3 -/
mutual
def repriselaw23_EventReads.j0 : Nat → List Int → Int → List Int → List Int → Int → Int → Int → Bool → Option (Bool)
 | 0, _, _, _, _, _, _, _, _ => none
 | k + 1, x0, x1, x2, x3, x4, x5, x6, x43 => if x43 = true then (some true) else ((repriseseat_Events.f k x2 x3).bind fun t439 => (repriselaw23_EventReads.l0 k x0 x1 x4 x5 x6 t439 ([] : List Int) 0))
def repriselaw23_EventReads.j2 : Nat → List Int → Int → Int → Int → Int → List Int → Option (Bool)
 | 0, _, _, _, _, _, _ => none
 | k + 1, x0, x1, x4, x5, x6, x16 => if ([] : List Int).length + x16.length < 140737488355328 then ((some (([] : List Int) ++ x16 : List Int)).bind fun y447 => (if y447.length < 140737488355328 then ((some (y447 ++ [0] : List Int)).bind fun y450 => (if (Int.tmod x6 3) = 0 then (if (y450.length : Int) = 0 then (none) else (if 0 ≤ (Int.tmod (wrap64 (x4)) (y450.length : Int)) then (if (Int.tmod (wrap64 (x4)) (y450.length : Int)) < (y450.length : Int) then (repriselaw23_EventReads.j3 k x0 x1 x4 x5 x6 x16 (y450.set ((Int.tmod (wrap64 (x4)) (y450.length : Int)) : Int).toNat (Go.bits .xor .u8 (rd y450 (Int.tmod (wrap64 (x4)) (y450.length : Int))) x5))) else (none)) else (none))) else (if (Int.tmod x6 3) = 1 then (if (y450.length : Int) = 0 then (none) else (if 0 ≤ (Int.tmod (wrap64 (x4)) (y450.length : Int)) then (if (Int.tmod (wrap64 (x4)) (y450.length : Int)) ≤ (y450.length : Int) then (repriselaw23_EventReads.j3 k x0 x1 x4 x5 x6 x16 (y450.take ((Int.tmod (wrap64 (x4)) (y450.length : Int)) : Int).toNat)) else (none)) else (none))) else (if 0 < (y450.length : Int) then (repriselaw23_EventReads.j3 k x0 x1 x4 x5 x6 x16 (y450.set (0 : Int).toNat x5)) else (none))))) else (none))) else (none)
def repriselaw23_EventReads.j3 : Nat → List Int → Int → Int → Int → Int → List Int → List Int → Option (Bool)
 | 0, _, _, _, _, _, _, _ => none
 | k + 1, x0, x1, x4, x5, x6, x16, x18 => (some (([x0, x16, x18, (([x5, Int.tmod x6 5, (x4) % 256, (x4 / 256) % 256] : List Int)), (([0, 2, 232, (7 + (Int.tmod x6 2)) % 256, 1] : List Int)), (([0, 0, 129, 128, 64] : List Int))] : List (List Int)) : List (List Int))).bind fun y468 => (repriselaw23_EventReads.l1 k x1 x5 y468 (y468.length : Int) 0)
def repriselaw23_EventReads.l1 : Nat → Int → Int → List (List Int) → Int → Int → Option (Bool)
 | 0, _, _, _, _, _ => none
 | k + 1, x1, x5, x113, x114, x115 => if x115 < x114 then (if 0 ≤ x115 then (if x115 < (x113.length : Int) then ((some (([x1, 0, wrap64 (4611686018427387904 - (wrap64 (Int.tmod x5 4)))] : List Int) : List Int)).bind fun y472 => (repriselaw23_EventReads.l2 k x1 x5 (rd_L2 x113 x115) x113 x114 x115 y472 (y472.length : Int) 0)) else (none)) else (none)) else (some true)
def repriselaw23_EventReads.l2 : Nat → Int → Int → List Int → List (List Int) → Int → Int → List Int → Int → Int → Option (Bool)
 | 0, _, _, _, _, _, _, _, _, _ => none
 | k + 1, x1, x5, x20, x113, x114, x115, x124, x125, x126 => if x126 < x125 then (if 0 ≤ x126 then (if x126 < (x124.length : Int) then ((event_Read.f k (rd x124 x126) x20).bind fun bt476 => ((repriseref23_Read.f k (rd x124 x126) x20).bind fun bt486 => (if bt476.2.2.2.2.2.1 = bt486.2.2.2.2.2.1 then (if bt476.2.2.2.2.2.2 = bt486.2.2.2.2.2.2 then ((repriseref23_Same.f bt476.1 bt476.2.1 bt476.2.2.1 bt476.2.2.2.1 bt476.2.2.2.2.1 bt486.1 bt486.2.1 bt486.2.2.1 bt486.2.2.2.1 bt486.2.2.2.2.1).bind fun t496 => (if t496 = true then (repriselaw23_EventReads.l2 k x1 x5 x20 x113 x114 x115 x124 x125 (wrap64 (x126 + 1))) else (none))) else (none)) else (none)))) else (none)) else (none)) else (repriselaw23_EventReads.l1 k x1 x5 x113 x114 (wrap64 (x115 + 1)))
def repriselaw23_EventReads.l0 : Nat → List Int → Int → Int → Int → Int → List (S30) → List Int → Int → Option (Bool)
 | 0, _, _, _, _, _, _, _, _ => none
 | k + 1, x0, x1, x4, x5, x6, x15, x16, x17 => if x17 < (x15.length : Int) then (if x17 < 1 then (if 0 ≤ x17 then ((repriseref23_Put.f k 0 ((rd_T30 x15 x17).f0) ((rd_T30 x15 x17).f1) ((rd_T30 x15 x17).f2) ((rd_T30 x15 x17).f3) ((rd_T30 x15 x17).f4)).bind fun bt443 => (repriselaw23_EventReads.l0 k x0 x1 x4 x5 x6 x15 bt443.1 (wrap64 (x17 + 1)))) else (none)) else (repriselaw23_EventReads.j2 k x0 x1 x4 x5 x6 x16)) else (repriselaw23_EventReads.j2 k x0 x1 x4 x5 x6 x16)
end
def repriselaw23_EventReads.f (k : Nat) (l0 : List Int) (a1 : Int) (l2 : List Int) (l3 : List Int) (a4 : Int) (a5 : Int) (a6 : Int) : Option (Bool) := (repriselaw23_known.f).bind fun t438 => (if t438 = true then (if (l0.length : Int) > 60 then (repriselaw23_EventReads.j0 k l0 a1 l2 l3 a4 a5 a6 true) else (if (l2.length : Int) > 10 then (repriselaw23_EventReads.j0 k l0 a1 l2 l3 a4 a5 a6 true) else (repriselaw23_EventReads.j0 k l0 a1 l2 l3 a4 a5 a6 (decide ((l3.length : Int) > 10))))) else (none))
theorem repriselaw23_EventReads.mono_l : ∀ k, (∀ y0 y1 y2 y3 y4 y5 y6 y7, LeO (repriselaw23_EventReads.j0 k y0 y1 y2 y3 y4 y5 y6 y7) (repriselaw23_EventReads.j0 (k + 1) y0 y1 y2 y3 y4 y5 y6 y7)) ∧ (∀ y0 y1 y2 y3 y4 y5, LeO (repriselaw23_EventReads.j2 k y0 y1 y2 y3 y4 y5) (repriselaw23_EventReads.j2 (k + 1) y0 y1 y2 y3 y4 y5)) ∧ (∀ y0 y1 y2 y3 y4 y5 y6, LeO (repriselaw23_EventReads.j3 k y0 y1 y2 y3 y4 y5 y6) (repriselaw23_EventReads.j3 (k + 1) y0 y1 y2 y3 y4 y5 y6)) ∧ (∀ y0 y1 y2 y3 y4, LeO (repriselaw23_EventReads.l1 k y0 y1 y2 y3 y4) (repriselaw23_EventReads.l1 (k + 1) y0 y1 y2 y3 y4)) ∧ (∀ y0 y1 y2 y3 y4 y5 y6 y7 y8, LeO (repriselaw23_EventReads.l2 k y0 y1 y2 y3 y4 y5 y6 y7 y8) (repriselaw23_EventReads.l2 (k + 1) y0 y1 y2 y3 y4 y5 y6 y7 y8)) ∧ (∀ y0 y1 y2 y3 y4 y5 y6 y7, LeO (repriselaw23_EventReads.l0 k y0 y1 y2 y3 y4 y5 y6 y7) (repriselaw23_EventReads.l0 (k + 1) y0 y1 y2 y3 y4 y5 y6 y7))
 | 0 => ⟨fun _ _ _ _ _ _ _ _ r h => by simp [repriselaw23_EventReads.j0] at h, fun _ _ _ _ _ _ r h => by simp [repriselaw23_EventReads.j2] at h, fun _ _ _ _ _ _ _ r h => by simp [repriselaw23_EventReads.j3] at h, fun _ _ _ _ _ r h => by simp [repriselaw23_EventReads.l1] at h, fun _ _ _ _ _ _ _ _ _ r h => by simp [repriselaw23_EventReads.l2] at h, fun _ _ _ _ _ _ _ _ r h => by simp [repriselaw23_EventReads.l0] at h⟩
 | k + 1 => by
  obtain ⟨ih0, ih1, ih2, ih3, ih4, ih5⟩ := repriselaw23_EventReads.mono_l k; refine ⟨?_, ?_, ?_, ?_, ?_, ?_⟩
  ·intro y0 y1 y2 y3 y4 y5 y6 y7
   unfold repriselaw23_EventReads.j0
   repeat' first
   | (with_reducible exact ih0 _ _ _ _ _ _ _ _)
   | (with_reducible exact ih1 _ _ _ _ _ _)
   | (with_reducible exact ih2 _ _ _ _ _ _ _)
   | (with_reducible exact ih3 _ _ _ _ _)
   | (with_reducible exact ih4 _ _ _ _ _ _ _ _ _)
   | (with_reducible exact ih5 _ _ _ _ _ _ _ _)
   | (with_reducible exact event_Read.mono _ _ _)
   | (with_reducible exact repriseref23_Put.mono _ _ _ _ _ _ _)
   | (with_reducible exact repriseref23_Read.mono _ _ _)
   | (with_reducible exact repriseseat_Events.mono _ _ _)
   | (with_reducible exact LeO.refl _)
   | (with_reducible exact LeO.none _)
   | (with_reducible refine LeO.ite ?_ ?_)
   | (with_reducible refine LeO.bind ?_ (fun _ => ?_))
   | exact ih0 _ _ _ _ _ _ _ _
   | exact ih1 _ _ _ _ _ _
   | exact ih2 _ _ _ _ _ _ _
   | exact ih3 _ _ _ _ _
   | exact ih4 _ _ _ _ _ _ _ _ _
   | exact ih5 _ _ _ _ _ _ _ _
   | exact event_Read.mono _ _ _
   | exact repriseref23_Put.mono _ _ _ _ _ _ _
   | exact repriseref23_Read.mono _ _ _
   | exact repriseseat_Events.mono _ _ _
   | exact LeO.none _
   | refine LeO.ite ?_ ?_
   | refine LeO.bind ?_ (fun _ => ?_)
  ·intro y0 y1 y2 y3 y4 y5
   unfold repriselaw23_EventReads.j2
   repeat' first
   | (with_reducible exact ih0 _ _ _ _ _ _ _ _)
   | (with_reducible exact ih1 _ _ _ _ _ _)
   | (with_reducible exact ih2 _ _ _ _ _ _ _)
   | (with_reducible exact ih3 _ _ _ _ _)
   | (with_reducible exact ih4 _ _ _ _ _ _ _ _ _)
   | (with_reducible exact ih5 _ _ _ _ _ _ _ _)
   | (with_reducible exact event_Read.mono _ _ _)
   | (with_reducible exact repriseref23_Put.mono _ _ _ _ _ _ _)
   | (with_reducible exact repriseref23_Read.mono _ _ _)
   | (with_reducible exact repriseseat_Events.mono _ _ _)
   | (with_reducible exact LeO.refl _)
   | (with_reducible exact LeO.none _)
   | (with_reducible refine LeO.ite ?_ ?_)
   | (with_reducible refine LeO.bind ?_ (fun _ => ?_))
   | exact ih0 _ _ _ _ _ _ _ _
   | exact ih1 _ _ _ _ _ _
   | exact ih2 _ _ _ _ _ _ _
   | exact ih3 _ _ _ _ _
   | exact ih4 _ _ _ _ _ _ _ _ _
   | exact ih5 _ _ _ _ _ _ _ _
   | exact event_Read.mono _ _ _
   | exact repriseref23_Put.mono _ _ _ _ _ _ _
   | exact repriseref23_Read.mono _ _ _
   | exact repriseseat_Events.mono _ _ _
   | exact LeO.none _
   | refine LeO.ite ?_ ?_
   | refine LeO.bind ?_ (fun _ => ?_)
  ·intro y0 y1 y2 y3 y4 y5 y6
   unfold repriselaw23_EventReads.j3
   repeat' first
   | (with_reducible exact ih0 _ _ _ _ _ _ _ _)
   | (with_reducible exact ih1 _ _ _ _ _ _)
   | (with_reducible exact ih2 _ _ _ _ _ _ _)
   | (with_reducible exact ih3 _ _ _ _ _)
   | (with_reducible exact ih4 _ _ _ _ _ _ _ _ _)
   | (with_reducible exact ih5 _ _ _ _ _ _ _ _)
   | (with_reducible exact event_Read.mono _ _ _)
   | (with_reducible exact repriseref23_Put.mono _ _ _ _ _ _ _)
   | (with_reducible exact repriseref23_Read.mono _ _ _)
   | (with_reducible exact repriseseat_Events.mono _ _ _)
   | (with_reducible exact LeO.refl _)
   | (with_reducible exact LeO.none _)
   | (with_reducible refine LeO.ite ?_ ?_)
   | (with_reducible refine LeO.bind ?_ (fun _ => ?_))
   | exact ih0 _ _ _ _ _ _ _ _
   | exact ih1 _ _ _ _ _ _
   | exact ih2 _ _ _ _ _ _ _
   | exact ih3 _ _ _ _ _
   | exact ih4 _ _ _ _ _ _ _ _ _
   | exact ih5 _ _ _ _ _ _ _ _
   | exact event_Read.mono _ _ _
   | exact repriseref23_Put.mono _ _ _ _ _ _ _
   | exact repriseref23_Read.mono _ _ _
   | exact repriseseat_Events.mono _ _ _
   | exact LeO.none _
   | refine LeO.ite ?_ ?_
   | refine LeO.bind ?_ (fun _ => ?_)
  ·intro y0 y1 y2 y3 y4
   unfold repriselaw23_EventReads.l1
   repeat' first
   | (with_reducible exact ih0 _ _ _ _ _ _ _ _)
   | (with_reducible exact ih1 _ _ _ _ _ _)
   | (with_reducible exact ih2 _ _ _ _ _ _ _)
   | (with_reducible exact ih3 _ _ _ _ _)
   | (with_reducible exact ih4 _ _ _ _ _ _ _ _ _)
   | (with_reducible exact ih5 _ _ _ _ _ _ _ _)
   | (with_reducible exact event_Read.mono _ _ _)
   | (with_reducible exact repriseref23_Put.mono _ _ _ _ _ _ _)
   | (with_reducible exact repriseref23_Read.mono _ _ _)
   | (with_reducible exact repriseseat_Events.mono _ _ _)
   | (with_reducible exact LeO.refl _)
   | (with_reducible exact LeO.none _)
   | (with_reducible refine LeO.ite ?_ ?_)
   | (with_reducible refine LeO.bind ?_ (fun _ => ?_))
   | exact ih0 _ _ _ _ _ _ _ _
   | exact ih1 _ _ _ _ _ _
   | exact ih2 _ _ _ _ _ _ _
   | exact ih3 _ _ _ _ _
   | exact ih4 _ _ _ _ _ _ _ _ _
   | exact ih5 _ _ _ _ _ _ _ _
   | exact event_Read.mono _ _ _
   | exact repriseref23_Put.mono _ _ _ _ _ _ _
   | exact repriseref23_Read.mono _ _ _
   | exact repriseseat_Events.mono _ _ _
   | exact LeO.none _
   | refine LeO.ite ?_ ?_
   | refine LeO.bind ?_ (fun _ => ?_)
  ·intro y0 y1 y2 y3 y4 y5 y6 y7 y8
   unfold repriselaw23_EventReads.l2
   repeat' first
   | (with_reducible exact ih0 _ _ _ _ _ _ _ _)
   | (with_reducible exact ih1 _ _ _ _ _ _)
   | (with_reducible exact ih2 _ _ _ _ _ _ _)
   | (with_reducible exact ih3 _ _ _ _ _)
   | (with_reducible exact ih4 _ _ _ _ _ _ _ _ _)
   | (with_reducible exact ih5 _ _ _ _ _ _ _ _)
   | (with_reducible exact event_Read.mono _ _ _)
   | (with_reducible exact repriseref23_Put.mono _ _ _ _ _ _ _)
   | (with_reducible exact repriseref23_Read.mono _ _ _)
   | (with_reducible exact repriseseat_Events.mono _ _ _)
   | (with_reducible exact LeO.refl _)
   | (with_reducible exact LeO.none _)
   | (with_reducible refine LeO.ite ?_ ?_)
   | (with_reducible refine LeO.bind ?_ (fun _ => ?_))
   | exact ih0 _ _ _ _ _ _ _ _
   | exact ih1 _ _ _ _ _ _
   | exact ih2 _ _ _ _ _ _ _
   | exact ih3 _ _ _ _ _
   | exact ih4 _ _ _ _ _ _ _ _ _
   | exact ih5 _ _ _ _ _ _ _ _
   | exact event_Read.mono _ _ _
   | exact repriseref23_Put.mono _ _ _ _ _ _ _
   | exact repriseref23_Read.mono _ _ _
   | exact repriseseat_Events.mono _ _ _
   | exact LeO.none _
   | refine LeO.ite ?_ ?_
   | refine LeO.bind ?_ (fun _ => ?_)
  ·intro y0 y1 y2 y3 y4 y5 y6 y7
   unfold repriselaw23_EventReads.l0
   repeat' first
   | (with_reducible exact ih0 _ _ _ _ _ _ _ _)
   | (with_reducible exact ih1 _ _ _ _ _ _)
   | (with_reducible exact ih2 _ _ _ _ _ _ _)
   | (with_reducible exact ih3 _ _ _ _ _)
   | (with_reducible exact ih4 _ _ _ _ _ _ _ _ _)
   | (with_reducible exact ih5 _ _ _ _ _ _ _ _)
   | (with_reducible exact event_Read.mono _ _ _)
   | (with_reducible exact repriseref23_Put.mono _ _ _ _ _ _ _)
   | (with_reducible exact repriseref23_Read.mono _ _ _)
   | (with_reducible exact repriseseat_Events.mono _ _ _)
   | (with_reducible exact LeO.refl _)
   | (with_reducible exact LeO.none _)
   | (with_reducible refine LeO.ite ?_ ?_)
   | (with_reducible refine LeO.bind ?_ (fun _ => ?_))
   | exact ih0 _ _ _ _ _ _ _ _
   | exact ih1 _ _ _ _ _ _
   | exact ih2 _ _ _ _ _ _ _
   | exact ih3 _ _ _ _ _
   | exact ih4 _ _ _ _ _ _ _ _ _
   | exact ih5 _ _ _ _ _ _ _ _
   | exact event_Read.mono _ _ _
   | exact repriseref23_Put.mono _ _ _ _ _ _ _
   | exact repriseref23_Read.mono _ _ _
   | exact repriseseat_Events.mono _ _ _
   | exact LeO.none _
   | refine LeO.ite ?_ ?_
   | refine LeO.bind ?_ (fun _ => ?_)
theorem repriselaw23_EventReads.mono : ∀ a0 a1 a2 a3 a4 a5 a6 k, LeO (repriselaw23_EventReads.f k a0 a1 a2 a3 a4 a5 a6) (repriselaw23_EventReads.f (k + 1) a0 a1 a2 a3 a4 a5 a6) := by
 intro a0 a1 a2 a3 a4 a5 a6 k
 obtain ⟨ih0, ih1, ih2, ih3, ih4, ih5⟩ := repriselaw23_EventReads.mono_l k; unfold repriselaw23_EventReads.f
 repeat' first
  | (with_reducible exact ih0 _ _ _ _ _ _ _ _)
  | (with_reducible exact ih1 _ _ _ _ _ _)
  | (with_reducible exact ih2 _ _ _ _ _ _ _)
  | (with_reducible exact ih3 _ _ _ _ _)
  | (with_reducible exact ih4 _ _ _ _ _ _ _ _ _)
  | (with_reducible exact ih5 _ _ _ _ _ _ _ _)
  | (with_reducible exact event_Read.mono _ _ _)
  | (with_reducible exact repriseref23_Put.mono _ _ _ _ _ _ _)
  | (with_reducible exact repriseref23_Read.mono _ _ _)
  | (with_reducible exact repriseseat_Events.mono _ _ _)
  | (with_reducible exact LeO.refl _)
  | (with_reducible exact LeO.none _)
  | (with_reducible refine LeO.ite ?_ ?_)
  | (with_reducible refine LeO.bind ?_ (fun _ => ?_))
  | exact ih0 _ _ _ _ _ _ _ _
  | exact ih1 _ _ _ _ _ _
  | exact ih2 _ _ _ _ _ _ _
  | exact ih3 _ _ _ _ _
  | exact ih4 _ _ _ _ _ _ _ _ _
  | exact ih5 _ _ _ _ _ _ _ _
  | exact event_Read.mono _ _ _
  | exact repriseref23_Put.mono _ _ _ _ _ _ _
  | exact repriseref23_Read.mono _ _ _
  | exact repriseseat_Events.mono _ _ _
  | exact LeO.none _
  | refine LeO.ite ?_ ?_
  | refine LeO.bind ?_ (fun _ => ?_)
set_option maxHeartbeats 8000000 in
set_option maxRecDepth 100000 in
theorem repriselaw23_EventReads.calls (k : Nat) (P0_ : Nat → Prop) (A0 : Option Addr) (c0 : Nat) (l0 : List Int) (a1 : Int) (A2 : Option Addr) (c2 : Nat) (l2 : List Int) (A3 : Option Addr) (c3 : Nat) (l3 : List Int) (a4 : Int) (a5 : Int) (a6 : Int) (r : Bool) (w : World) (hs0 : Kd.V (Kd.int .u8) 5 w w.heap.size (fun k_ => P0_ k_) (.slice A0 l0.length c0) l0) (hr2 : Kd.C (Kd.int .u8) w A2 l2.length l2) (hc2 : l2.length ≤ c2) (hr3 : Kd.C (Kd.int .u8) w A3 l3.length l3) (hc3 : l3.length ≤ c3) (h : repriselaw23_EventReads.f k l0 a1 l2 l3 a4 a5 a6 = some r) :
 Calls Try.prog 3 #[.slice A0 l0.length c0, .int .i64 a1, .slice A2 l2.length c2, .slice A3 l3.length c3, .int .u16 a4, .int .u8 a5, .int .u8 a6] w fun e w' => e = .returned (.bool r) ∧ Below w.heap.size w w' := by
 have hu30 := Try.underlying30; have HO0 := Aside0.mk (show Kd.V (Kd.int .u8) 5 w w.heap.size (fun k_ => (P0_ k_ ∨ w.heap.size ≤ k_)) (.slice A0 l0.length c0) l0 from Kd.V_mono hs0 (fun k_ hk => .inl hk))
 have HR2 := Aside0.mk hr2; have HC2 := Aside0.mk hc2; clear hr2 hc2; have HR3 := Aside0.mk hr3; have HC3 := Aside0.mk hc3; clear hr3 hc3; have HB := Aside0.mk (Below.refl w.heap.size w)
 have H : ((repriselaw23_known.f).bind fun t438 => (if t438 = true then (if (l0.length : Int) > 60 then (repriselaw23_EventReads.j0 k l0 a1 l2 l3 a4 a5 a6 true) else (if (l2.length : Int) > 10 then (repriselaw23_EventReads.j0 k l0 a1 l2 l3 a4 a5 a6 true) else (repriselaw23_EventReads.j0 k l0 a1 l2 l3 a4 a5 a6 (decide ((l3.length : Int) > 10))))) else (none))) = some r := h
 clear h; replace H := Option.bind_eq_some_iff.mp H; obtain ⟨t438, A80, H⟩ := H; replace H : (if t438 = true then (if (l0.length : Int) > 60 then (repriselaw23_EventReads.j0 k l0 a1 l2 l3 a4 a5 a6 true) else (if (l2.length : Int) > 10 then (repriselaw23_EventReads.j0 k l0 a1 l2 l3 a4 a5 a6 true) else (repriselaw23_EventReads.j0 k l0 a1 l2 l3 a4 a5 a6 (decide ((l3.length : Int) > 10))))) else (none)) = some r := H
 have A8 := Aside0.mk A80; clear A80; by_cases c9 : t438 = true
 ·subst c9; have H1 : (if (l0.length : Int) > 60 then (repriselaw23_EventReads.j0 k l0 a1 l2 l3 a4 a5 a6 true) else (if (l2.length : Int) > 10 then (repriselaw23_EventReads.j0 k l0 a1 l2 l3 a4 a5 a6 true) else (repriselaw23_EventReads.j0 k l0 a1 l2 l3 a4 a5 a6 (decide ((l3.length : Int) > 10))))) = some r := by rw [if_pos rfl] at H; exact H
  clear H; have H := H1; clear H1; have HC10 := Aside0.mk H; clear H; go_enter Try.func3, Try.ntmps3
  go_upto_region 3 with (first | ((with_reducible refine gate_callee (f := 11) rfl ?_); refine goesL_ (some 29) rfl rfl Try.func11 (by kernel_rfl) rfl #[] rfl (by (try simp only [List.map_toArray, List.map_cons, List.map_nil]); first | done | rfl | (simp only [List.length_drop, List.length_take]; rfl)) ?_; (with_reducible refine (repriselaw23_known.calls  true _ A8.out).mono ?_); rintro e w11 ⟨rfl, hb⟩; refine ⟨_, rfl, ?_⟩; have n0_ := Aside0.mk (Kd.V_below (by (with_reducible repeat (first | apply Kd.V_alloc | apply Kd.V_drewN | apply Kd.V_drew)); exact HO0.out) hb); have n1_ := Aside0.mk (below_step (by repeat (first | (with_reducible first | exact HB.out | apply below_alloc | apply pw_below_drewN | apply below_drew1) | exact HB.out)) hb); clear HO0; clear HB; have HO0 := n0_; have HB := n1_; clear n0_ n1_; (try clear hb); (try clear hb2); (try clear hk); (try clear hi)))
  (try simp only [Act.put, List.setIfInBounds_toArray, List.set_cons_zero, List.set_cons_succ])
  go_cut [43] (fun v43 wc => ∃ (kq : Nat) (x43_9 : Bool), v43 = .bool x43_9 ∧ Aside0 (repriselaw23_EventReads.j0 kq l0 a1 l2 l3 a4 a5 a6 x43_9 = some r) ∧ Aside0 (kq ≤ k) ∧ Aside0 (Kd.V (Kd.int .u8) 5 wc w.heap.size (fun k_ => (P0_ k_ ∨ w.heap.size ≤ k_)) (.slice A0 l0.length c0) l0) ∧ Aside0 (Below w.heap.size w wc))
  case first =>
   have H := HC10.out; clear HC10; by_cases c12 : (l0.length : Int) > 60
   ·rw [if_pos c12] at H
    have c12b0 : decide (60 < (l0.length : Int)) = true := decide_eq_true c12
    have c12b1 : decide (60 < l0.length) = true := decide_eq_true (by omega)
    clear c12; (first | rw [c12b0] | (simp only [i64_w, i32_w]; rw [c12b0]) | skip)
    have H' := Aside0.mk H; clear H; go_wp2
    go_meet
    case rel => exact ⟨_, (true), (by first | rfl | (simp; done) | (simp [*]; done)), H', ⟨by first | omega | exact Nat.le_refl _⟩, ⟨by (with_reducible repeat (first | apply Kd.V_alloc | apply Kd.V_drewN | apply Kd.V_drew)); exact HO0.out⟩, ⟨by repeat (first | (with_reducible first | exact HB.out | apply below_alloc | apply pw_below_drewN | apply below_drew1) | exact HB.out)⟩⟩
   ·rw [if_neg c12] at H
    have c12b0 : decide (60 < (l0.length : Int)) = false := decide_eq_false c12
    have c12b1 : decide (60 < l0.length) = false := decide_eq_false (by omega)
    clear c12; (first | rw [c12b0] | (simp only [i64_w, i32_w]; rw [c12b0]) | skip)
    by_cases c13 : (l2.length : Int) > 10
    ·rw [if_pos c13] at H
     have c13b0 : decide (10 < (l2.length : Int)) = true := decide_eq_true c13
     have c13b1 : decide (10 < l2.length) = true := decide_eq_true (by omega)
     clear c13; have H' := Aside0.mk H; clear H; go_wp2
     go_meet
     case rel => exact ⟨_, (true), (by first | rfl | (simp; done) | (simp [*]; done)), H', ⟨by first | omega | exact Nat.le_refl _⟩, ⟨by (with_reducible repeat (first | apply Kd.V_alloc | apply Kd.V_drewN | apply Kd.V_drew)); exact HO0.out⟩, ⟨by repeat (first | (with_reducible first | exact HB.out | apply below_alloc | apply pw_below_drewN | apply below_drew1) | exact HB.out)⟩⟩
    ·rw [if_neg c13] at H
     have c13b0 : decide (10 < (l2.length : Int)) = false := decide_eq_false c13
     have c13b1 : decide (10 < l2.length) = false := decide_eq_false (by omega)
     clear c13; have H' := Aside0.mk H; clear H; go_wp2
     go_meet
     case rel => exact ⟨_, (decide ((l3.length : Int) > 10)), (by first | rfl | (simp; done) | (simp [*]; done)), H', ⟨by first | omega | exact Nat.le_refl _⟩, ⟨by (with_reducible repeat (first | apply Kd.V_alloc | apply Kd.V_drewN | apply Kd.V_drew)); exact HO0.out⟩, ⟨by repeat (first | (with_reducible first | exact HB.out | apply below_alloc | apply pw_below_drewN | apply below_drew1) | exact HB.out)⟩⟩
  case rest =>
   clear HC10
   try clear c1
   try clear c2
   try clear p2
   try clear c3
   try clear c9
   try clear c11
   try clear c12
   try clear c12b0
   try clear c12b1
   try clear c13
   try clear c13b0
   try clear c13b1
   obtain ⟨kq, x43_9, rfl, HA, HJ9, HO_0, HB⟩ := hcut; cases kq with
   | zero => exact absurd HA.out (by simp [repriselaw23_EventReads.j0])
   | succ kj9 =>
    have H := HA.out; clear HA; simp only [repriselaw23_EventReads.j0] at H
    by_cases c14 : x43_9 = true
    ·subst c14; have H1 : (some true) = some r := by rw [if_pos rfl] at H; exact H
     clear H; have H := H1; clear H1; obtain rfl := Option.some.inj H
     go_wp2
     go_ret
     exact ⟨by first | rfl | (simp [errW_none, errW_some] <;> rfl) | (simp [*, errW_none, errW_some] <;> rfl), by repeat (first | (with_reducible first | exact HB.out | apply below_alloc | apply pw_below_drewN | apply below_drew1) | exact HB.out)⟩
    ·replace c14 := Bool.eq_false_iff.mpr c14; subst c14; have H1 : ((repriseseat_Events.f kj9 l2 l3).bind fun t439 => (repriselaw23_EventReads.l0 kj9 l0 a1 a4 a5 a6 t439 ([] : List Int) 0)) = some r := by rw [if_neg (show ¬ (false = true) by decide)] at H; exact H
     clear H; have H := H1; clear H1; replace H := Option.bind_eq_some_iff.mp H; obtain ⟨t439, A150, H⟩ := H; replace H : (repriselaw23_EventReads.l0 kj9 l0 a1 a4 a5 a6 t439 ([] : List Int) 0) = some r := H
     have A15 := Aside0.mk A150; clear A150; have HC16 := Aside0.mk H; clear H; go_upto_block 0 with (first | ((with_reducible refine gate_callee (f := 12) rfl ?_); refine goesL_ (some 46) rfl rfl Try.func12 (by kernel_rfl) rfl #[.slice A2 l2.length c2, .slice A3 l3.length c3] rfl (by (try simp only [List.map_toArray, List.map_cons, List.map_nil]); first | done | rfl | (simp only [List.length_drop, List.length_take]; rfl)) ?_; (with_reducible refine (repriseseat_Events.calls kj9 _ _ l2 _ _ l3 t439 _ ?side1 ?side2 ?side3 ?side4 A15.out).mono ?_); (case side1 => repeat (first | exact (Kd.C_below HR2.out HB.out) | (with_reducible refine Kd.C_alloc ?_ _) | (with_reducible refine Kd.C_drewN ?_ _) | (with_reducible refine Kd.C_drew ?_))); (case side2 => exact HC2.out); (case side3 => repeat (first | exact (Kd.C_below HR3.out HB.out) | (with_reducible refine Kd.C_alloc ?_ _) | (with_reducible refine Kd.C_drewN ?_ _) | (with_reducible refine Kd.C_drew ?_))); (case side4 => exact HC3.out); rintro e w17 ⟨v440, rfl, ho0, hb⟩; refine ⟨_, rfl, ?_⟩; have n0_ := Aside0.mk (Kd.V_elder' (by (with_reducible repeat (first | apply Kd.V_alloc | apply Kd.V_drewN | apply Kd.V_drew)); exact HO_0.out) (Kd.N_base ho0) hb); have n1_ := Aside0.mk (Kd.N_lower (Kd.N_mono (ok' := fun k_ => (P0_ k_ ∨ w.heap.size ≤ k_)) ho0 (fun k_ hk_ => (.inr (Nat.le_trans (below_size (by repeat (first | (with_reducible first | exact HB.out | apply below_alloc | apply pw_below_drewN | apply below_drew1) | exact HB.out))) hk_)))) (below_size (by repeat (first | (with_reducible first | exact HB.out | apply below_alloc | apply pw_below_drewN | apply below_drew1) | exact HB.out)))); have n2_ := Aside0.mk (below_step (by repeat (first | (with_reducible first | exact HB.out | apply below_alloc | apply pw_below_drewN | apply below_drew1) | exact HB.out)) hb); clear HO_0; clear HB; have HO_0 := n0_; have HO441 := n1_; have HB := n2_; clear n0_ n1_ n2_; (try clear hb); (try clear hb2); (try clear hk); (try clear hi); (try clear ho0)))
     (try simp only [Act.put, List.setIfInBounds_toArray, List.set_cons_zero, List.set_cons_succ])
     go_cut [16] (fun v16 wc => ∃ (kq : Nat) (x16_15 : List Int), Aside0 (repriselaw23_EventReads.j2 kq l0 a1 a4 a5 a6 x16_15 = some r) ∧ Aside0 (kq ≤ kj9) ∧ Aside0 (Kd.V (Kd.int .u8) 5 wc w.heap.size (fun k_ => (P0_ k_ ∨ w.heap.size ≤ k_) ∧ some k_ ≠ (v16 : Value).ownBlock) (.slice A0 l0.length c0) l0) ∧ Aside0 (Kd.R (Kd.int .u8) 5 wc w.heap.size (fun k_ => (w.heap.size ≤ k_)) v16 x16_15) ∧ Aside0 (Below w.heap.size w wc))
     case first =>
      have H := HC16.out; clear HC16; have H' := Aside0.mk H; clear H; go_wp2
      go_loopg [16, 17] kj9 (fun kq v16 v17 w' => ∃ (x16_2 : List Int) (x17_2 : Int), v17 = .int .i64 x17_2 ∧ Aside0 (repriselaw23_EventReads.l0 kq l0 a1 a4 a5 a6 t439 x16_2 x17_2 = some r) ∧ Aside0 (kq ≤ kj9) ∧ Aside0 (Kd.V (Kd.int .u8) 5 w' w.heap.size (fun k_ => (P0_ k_ ∨ w.heap.size ≤ k_) ∧ some k_ ≠ (v440 : Value).ownBlock ∧ some k_ ≠ (v16 : Value).ownBlock) (.slice A0 l0.length c0) l0) ∧ Aside0 (Kd.N k30 30 w' w.heap.size (fun k_ => (P0_ k_ ∨ w.heap.size ≤ k_) ∧ some k_ ≠ (v16 : Value).ownBlock) v440 t439) ∧ Aside0 (Kd.R (Kd.int .u8) 5 w' w.heap.size (fun k_ => (w.heap.size ≤ k_)) v16 x16_2) ∧ Aside0 (Below w.heap.size w w'))
      case atStart => exact ⟨(([] : List Int)), (0), (by first | rfl | (simp; done) | (simp [*]; done)), H', ⟨Nat.le_refl _⟩, ⟨by (with_reducible repeat (first | apply Kd.V_alloc | apply Kd.V_drewN | apply Kd.V_drew)); exact Kd.V_mono HO_0.out (fun _ hk => ⟨hk.1, ⟨hk.2, (by simp [Value.ownBlock])⟩⟩)⟩, ⟨by (with_reducible repeat (first | apply Kd.N_alloc | apply Kd.N_drewN | apply Kd.N_drew)); exact Kd.N_mono HO441.out (fun _ hk => ⟨hk, (by simp [Value.ownBlock])⟩)⟩, ⟨by first | exact Kd.R_nil _ _ _ _ _ | exact Kd.N_nil _ _ _ _ _ | exact Kd.V_nil _ _ _ _ _ | exact Kd.Q_nil _ _ _ _ _ | exact Kd.S_nil _ _ _ _ _⟩, ⟨by repeat (first | (with_reducible first | exact HB.out | apply below_alloc | apply pw_below_drewN | apply below_drew1) | exact HB.out)⟩⟩
      case round =>
       clear H'
       try clear c1
       try clear c2
       try clear p2
       try clear c3
       try clear c9
       try clear c11
       try clear c12
       try clear c12b0
       try clear c12b1
       try clear c13
       try clear c13b0
       try clear c13b1
       try clear c14
       try clear p2
       obtain ⟨x16_2, x17_2, rfl, HA, HK2, HO_0, HO_15, HO_16, HB⟩ := hrel; cases gk with
       | zero => exact absurd HA.out (by simp [repriselaw23_EventReads.l0])
       | succ k2 =>
        have H := HA.out; clear HA; simp only [repriselaw23_EventReads.l0] at H
        by_cases c18 : x17_2 < (t439.length : Int)
        ·rw [if_pos c18] at H
         have c18b0 : decide (x17_2 < (t439.length : Int)) = true := decide_eq_true c18
         clear c18; (first | rw [c18b0] | (simp only [i64_w, i32_w]; rw [c18b0]) | skip)
         by_cases c19 : x17_2 < 1
         ·rw [if_pos c19] at H
          have c19b0 : decide (x17_2 < 1) = true := decide_eq_true c19
          clear c19; by_cases c20 : 0 ≤ x17_2
          ·rw [if_pos c20] at H
           have c20b0 : decide (0 ≤ x17_2) = true := decide_eq_true c20
           clear c20; replace H := Option.bind_eq_some_iff.mp H; obtain ⟨⟨t443, t446⟩, A210, H⟩ := H; replace H : (repriselaw23_EventReads.l0 k2 l0 a1 a4 a5 a6 t439 t443 (wrap64 (x17_2 + 1))) = some r := H
           have A21 := Aside0.mk A210; clear A210; have H' := Aside0.mk H; clear H; obtain ⟨Ao22, co22, eo22⟩ := Kd.N_slice HO_15.out; subst eo22; have p442 : 0 ≤ (x17_2 : Int) := of_decide_eq_true (by first | (with_reducible assumption) | assumption)
           have q442 : x17_2 < (t439.length : Int) := of_decide_eq_true (by first | (with_reducible assumption) | assumption)
           obtain ⟨ad442, A442_2, c442_2, e442, hx442_0, hx442_1, hx442_2, hx442_3, hx442_4, hl442_2, hi442_2⟩ := at_T30 (Kd.N_reads' HO_15.out).2.2 x17_2 p442 q442
           cases e442; obtain ⟨ce442, hce442, hMe442, hcc442⟩ := Kd.N_get HO_15.out z30 x17_2 p442 (by first | exact q442 | exact of_decide_eq_true (by first | (with_reducible assumption) | assumption) | (have e_ := (Kd.N_reads' HO_15.out).1; omega))
           obtain ⟨ua442_2, uc442_2, rfl, ul442_2, ge442_2⟩ := k30_openF hMe442; have hv442_2 := hcc442 2 _ rfl; rw [add_field _ _ 2 (by omega)] at hv442_2
           replace hv442_2 := Option.some.inj (hv442_2.symm.trans hx442_2)
           injection hv442_2 with hva_ hvn_ hvc_
           rw [hva_] at ge442_2
           rw [hvc_] at ul442_2
           have HL442_2 := Aside0.mk (show Kd.V (Kd.int .u8) 5 _ w.heap.size _ _ ((rd_T30 t439 x17_2).f2) from Kd.V_mk ul442_2 ge442_2)
           clear hva_ hvn_ hvc_ ge442_2 ul442_2 hcc442 hce442; have HR442_2 := Aside0.mk hi442_2; have HC442_2 := Aside0.mk hl442_2; clear hi442_2 hl442_2; replace p442 := eq_true p442; replace q442 := eq_true q442; go_wp2_with (first | ((with_reducible refine gate_callee (f := 13) rfl ?_); refine goesL_ (some 62) rfl rfl Try.func13 (by kernel_rfl) rfl #[.int .i64 0, .agg #[.int .i64 ((rd_T30 t439 x17_2).f0), .int .i64 ((rd_T30 t439 x17_2).f1), .slice A442_2 ((rd_T30 t439 x17_2).f2).length c442_2, .int .i64 ((rd_T30 t439 x17_2).f3), .int .i64 ((rd_T30 t439 x17_2).f4)]] rfl (by (try simp only [List.map_toArray, List.map_cons, List.map_nil]); first | done | rfl | (simp only [List.length_drop, List.length_take]; rfl)) ?_; (with_reducible refine (repriseref23_Put.calls k2 0 ((rd_T30 t439 x17_2).f0) ((rd_T30 t439 x17_2).f1) _ _ ((rd_T30 t439 x17_2).f2) ((rd_T30 t439 x17_2).f3) ((rd_T30 t439 x17_2).f4) t443 t446 _ ?side1 ?side2 A21.out).mono ?_); (case side1 => repeat (first | exact (by repeat (first | (with_reducible exact HR442_2.out) | (with_reducible refine Kd.C_alloc ?_ _) | (with_reducible refine Kd.C_drewN ?_ _) | (with_reducible refine Kd.C_drew ?_) | exact HR442_2.out)) | (with_reducible refine Kd.C_alloc ?_ _) | (with_reducible refine Kd.C_drewN ?_ _) | (with_reducible refine Kd.C_drew ?_))); (case side2 => exact HC442_2.out); rintro e w23 ⟨v444, rfl, ho0, hb⟩; refine ⟨_, rfl, ?_⟩; have n0_ := Aside0.mk (Kd.V_elder' (by (with_reducible repeat (first | apply Kd.V_alloc | apply Kd.V_drewN | apply Kd.V_drew)); exact HO_0.out) (Kd.R_base ho0) hb); have n1_ := Aside0.mk (Kd.N_elder' (by (with_reducible repeat (first | apply Kd.N_alloc | apply Kd.N_drewN | apply Kd.N_drew)); exact HO_15.out) (Kd.R_base ho0) hb); have n2_ := Aside0.mk (Kd.R_elder' (by (with_reducible repeat (first | apply Kd.R_alloc | apply Kd.R_drewN | apply Kd.R_drew)); exact HO_16.out) (Kd.R_base ho0) hb); have n3_ := Aside0.mk (Kd.V_elder' (by (with_reducible repeat (first | apply Kd.V_alloc | apply Kd.V_drewN | apply Kd.V_drew)); exact HL442_2.out) (Kd.R_base ho0) hb); have n4_ := Aside0.mk (Kd.R_lower (Kd.R_new' (Kd.R_newM (M := fun k_ => (w.heap.size ≤ k_)) ho0 (below_size (by repeat (first | (with_reducible first | exact HB.out | apply below_alloc | apply pw_below_drewN | apply below_drew1) | exact HB.out))) (fun k_ h_ => h_)) (Kd.R_lt (by (with_reducible repeat (first | apply Kd.R_alloc | apply Kd.R_drewN | apply Kd.R_drew)); exact HO_16.out))) (below_size (by repeat (first | (with_reducible first | exact HB.out | apply below_alloc | apply pw_below_drewN | apply below_drew1) | exact HB.out)))); have n5_ := Aside0.mk (Kd.C_below (by repeat (first | (with_reducible exact HR442_2.out) | (with_reducible refine Kd.C_alloc ?_ _) | (with_reducible refine Kd.C_drewN ?_ _) | (with_reducible refine Kd.C_drew ?_) | exact HR442_2.out)) hb); have n6_ := Aside0.mk (below_step (by repeat (first | (with_reducible first | exact HB.out | apply below_alloc | apply pw_below_drewN | apply below_drew1) | exact HB.out)) hb); clear HO_0; clear HO_15; clear HO_16; clear HL442_2; clear HR442_2; clear HB; have HO_0 := n0_; have HO_15 := n1_; have HO_16 := n2_; have HL442_2 := n3_; have HO445 := n4_; have HR442_2 := n5_; have HB := n6_; clear n0_ n1_ n2_ n3_ n4_ n5_ n6_; (try clear hb); (try clear hb2); (try clear hk); (try clear hi); (try clear ho0)))
           go_roundg k2
           case measure => have := HJ9.out; have := HK2.out; omega
           case rel => exact ⟨(t443), (wrap64 (x17_2 + 1)), (by first | rfl | (simp; done) | (simp [*]; done)), H', ⟨by have := HJ9.out; have := HK2.out; omega⟩, ⟨by (with_reducible repeat (first | apply Kd.V_alloc | apply Kd.V_drewN | apply Kd.V_drew)); exact Kd.V_mono HO_0.out (fun _ hk => ⟨hk.1.1, ⟨hk.1.2.1, hk.2⟩⟩)⟩, ⟨by (with_reducible repeat (first | apply Kd.N_alloc | apply Kd.N_drewN | apply Kd.N_drew)); exact Kd.N_mono HO_15.out (fun _ hk => ⟨hk.1.1, hk.2⟩)⟩, ⟨by (with_reducible repeat (first | apply Kd.R_alloc | apply Kd.R_drewN | apply Kd.R_drew)); exact Kd.R_mono HO445.out (fun _ hk => hk.1.1)⟩, ⟨by repeat (first | (with_reducible first | exact HB.out | apply below_alloc | apply pw_below_drewN | apply below_drew1) | exact HB.out)⟩⟩
          ·rw [if_neg c20] at H
           exact absurd H (by simp)
         ·rw [if_neg c19] at H
          have c19b0 : decide (x17_2 < 1) = false := decide_eq_false c19
          clear c19; have H' := Aside0.mk H; clear H; obtain ⟨Ao24, co24, eo24⟩ := Kd.N_slice HO_15.out; subst eo24; go_wp2
          go_meet
          case rel => exact ⟨_, (x16_2), H', ⟨by have := HJ9.out; have := HK2.out; first | omega | exact Nat.le_refl _⟩, ⟨by (with_reducible repeat (first | apply Kd.V_alloc | apply Kd.V_drewN | apply Kd.V_drew)); exact Kd.V_mono HO_0.out (fun _ hk => ⟨hk.1, hk.2.2⟩)⟩, ⟨by (with_reducible repeat (first | apply Kd.R_alloc | apply Kd.R_drewN | apply Kd.R_drew)); exact HO_16.out⟩, ⟨by repeat (first | (with_reducible first | exact HB.out | apply below_alloc | apply pw_below_drewN | apply below_drew1) | exact HB.out)⟩⟩
        ·rw [if_neg c18] at H
         have c18b0 : decide (x17_2 < (t439.length : Int)) = false := decide_eq_false c18
         clear c18; (first | rw [c18b0] | (simp only [i64_w, i32_w]; rw [c18b0]) | skip)
         have H' := Aside0.mk H; clear H; obtain ⟨Ao25, co25, eo25⟩ := Kd.N_slice HO_15.out; subst eo25; go_wp2
         go_meet
         case rel => exact ⟨_, (x16_2), H', ⟨by have := HJ9.out; have := HK2.out; first | omega | exact Nat.le_refl _⟩, ⟨by (with_reducible repeat (first | apply Kd.V_alloc | apply Kd.V_drewN | apply Kd.V_drew)); exact Kd.V_mono HO_0.out (fun _ hk => ⟨hk.1, hk.2.2⟩)⟩, ⟨by (with_reducible repeat (first | apply Kd.R_alloc | apply Kd.R_drewN | apply Kd.R_drew)); exact HO_16.out⟩, ⟨by repeat (first | (with_reducible first | exact HB.out | apply below_alloc | apply pw_below_drewN | apply below_drew1) | exact HB.out)⟩⟩
     case rest =>
      clear HC16
      try clear c1
      try clear c2
      try clear p2
      try clear c3
      try clear c4
      try clear p4
      try clear q4
      try clear hx4
      try clear p6
      try clear c9
      try clear c11
      try clear c12
      try clear c12b0
      try clear c12b1
      try clear c13
      try clear c13b0
      try clear c13b1
      try clear c14
      try clear c18
      try clear c18b0
      try clear c19
      try clear c19b0
      try clear c20
      try clear c20b0
      try clear hx442_0
      try clear hx442_1
      try clear hx442_2
      try clear hx442_3
      try clear hx442_4
      try clear p2
      try clear p442
      try clear q442
      obtain ⟨kq, x16_15, HA, HJ15, HO_0, HO_16, HB⟩ := hcut; cases kq with
      | zero => exact absurd HA.out (by simp [repriselaw23_EventReads.j2])
      | succ kj15 =>
       have H := HA.out; clear HA; simp only [repriselaw23_EventReads.j2] at H
       by_cases c26 : ([] : List Int).length + x16_15.length < 140737488355328
       ·rw [if_pos c26] at H
        have LMc26 := Aside0.mk c26; clear c26; obtain ⟨y447, hy447⟩ : ∃ y_ : List Int, y_ = (([] : List Int) ++ x16_15) := ⟨_, rfl⟩
        replace H : (if y447.length < 140737488355328 then ((some (y447 ++ [0] : List Int)).bind fun y450 => (if (Int.tmod a6 3) = 0 then (if (y450.length : Int) = 0 then (none) else (if 0 ≤ (Int.tmod (wrap64 (a4)) (y450.length : Int)) then (if (Int.tmod (wrap64 (a4)) (y450.length : Int)) < (y450.length : Int) then (repriselaw23_EventReads.j3 kj15 l0 a1 a4 a5 a6 x16_15 (y450.set ((Int.tmod (wrap64 (a4)) (y450.length : Int)) : Int).toNat (Go.bits .xor .u8 (rd y450 (Int.tmod (wrap64 (a4)) (y450.length : Int))) a5))) else (none)) else (none))) else (if (Int.tmod a6 3) = 1 then (if (y450.length : Int) = 0 then (none) else (if 0 ≤ (Int.tmod (wrap64 (a4)) (y450.length : Int)) then (if (Int.tmod (wrap64 (a4)) (y450.length : Int)) ≤ (y450.length : Int) then (repriselaw23_EventReads.j3 kj15 l0 a1 a4 a5 a6 x16_15 (y450.take ((Int.tmod (wrap64 (a4)) (y450.length : Int)) : Int).toNat)) else (none)) else (none))) else (if 0 < (y450.length : Int) then (repriselaw23_EventReads.j3 kj15 l0 a1 a4 a5 a6 x16_15 (y450.set (0 : Int).toNat a5)) else (none))))) else (none)) = some r := by first | (rw [hy447]; with_reducible exact H) | (have H2_ := (Option.bind_some _ _).symm.trans H; rw [hy447]; with_reducible exact H2_) | (have H2_ := (Option.bind_some _ _).symm.trans H; with_reducible exact H2_) | with_reducible exact H | (rw [hy447]; exact H) | exact H
        have Ny447 := Aside0.mk hy447; clear hy447; by_cases c27 : y447.length < 140737488355328
        ·rw [if_pos c27] at H
         have LMc27 := Aside0.mk c27; clear c27; obtain ⟨y450, hy450⟩ : ∃ y_ : List Int, y_ = (y447 ++ [0]) := ⟨_, rfl⟩
         replace H : (if (Int.tmod a6 3) = 0 then (if (y450.length : Int) = 0 then (none) else (if 0 ≤ (Int.tmod (wrap64 (a4)) (y450.length : Int)) then (if (Int.tmod (wrap64 (a4)) (y450.length : Int)) < (y450.length : Int) then (repriselaw23_EventReads.j3 kj15 l0 a1 a4 a5 a6 x16_15 (y450.set ((Int.tmod (wrap64 (a4)) (y450.length : Int)) : Int).toNat (Go.bits .xor .u8 (rd y450 (Int.tmod (wrap64 (a4)) (y450.length : Int))) a5))) else (none)) else (none))) else (if (Int.tmod a6 3) = 1 then (if (y450.length : Int) = 0 then (none) else (if 0 ≤ (Int.tmod (wrap64 (a4)) (y450.length : Int)) then (if (Int.tmod (wrap64 (a4)) (y450.length : Int)) ≤ (y450.length : Int) then (repriselaw23_EventReads.j3 kj15 l0 a1 a4 a5 a6 x16_15 (y450.take ((Int.tmod (wrap64 (a4)) (y450.length : Int)) : Int).toNat)) else (none)) else (none))) else (if 0 < (y450.length : Int) then (repriselaw23_EventReads.j3 kj15 l0 a1 a4 a5 a6 x16_15 (y450.set (0 : Int).toNat a5)) else (none)))) = some r := by first | (rw [hy450]; with_reducible exact H) | (have H2_ := (Option.bind_some _ _).symm.trans H; rw [hy450]; with_reducible exact H2_) | (have H2_ := (Option.bind_some _ _).symm.trans H; with_reducible exact H2_) | with_reducible exact H | (rw [hy450]; exact H) | exact H
         have Ny450 := Aside0.mk hy450; clear hy450; have HC28 := Aside0.mk H; clear H; obtain ⟨Ao30, co30, eo30⟩ := Kd.R_slice HO_16.out; subst eo30; go_upto_block 2 with (first | ((with_reducible refine gate_builtin (b := .append) (xs := #[.const (.slice none 0 0), .tmp 65]) rfl ?_); (try (refine gate_guard (by rfl) ?_; dsimp only)); at_builtin; refine Kd.R_append_rows (Kd.int .u8) (w0 := w) w.heap.size rfl (.const (.slice none 0 0)) (.tmp 65) 22 5 (.int .u8 0) 1 rfl Try.underlying22 info5 rfl (by decide) (by omega) (.slice none 0 0) ([] : List Int) x16_15 _ _ _ (fun k_ => (w.heap.size ≤ k_) ∧ some k_ ≠ (.slice Ao30 x16_15.length co30 : Value).ownBlock) (fun _ => False) rfl rfl ?aO ?aR (fun _ _ h => h) (fun _ h => h.elim) ?aF ?aB ?aS ?aL ?_; (case aR => repeat (first | exact (Kd.R_reads' HO_16.out).2.2 | (with_reducible refine Kd.C_alloc ?_ _) | (with_reducible refine Kd.C_drewN ?_ _) | (with_reducible refine Kd.C_drew ?_))); (case aB => exact (by repeat (first | (with_reducible first | exact HB.out | apply below_alloc | apply pw_below_drewN | apply below_drew1) | exact HB.out))); (case aF => exact (fun k_ hk => ⟨(Nat.le_trans (below_size (by repeat (first | (with_reducible first | exact HB.out | apply below_alloc | apply pw_below_drewN | apply below_drew1) | exact HB.out))) hk), Kd.fresh' (Kd.R_lt (by (with_reducible repeat (first | apply Kd.R_alloc | apply Kd.R_drewN | apply Kd.R_drew)); exact HO_16.out)) k_ hk⟩)); (case aO => exact ((Kd.R_nil _ _ _ _ (fun k_ => (w.heap.size ≤ k_) ∧ some k_ ≠ (.slice Ao30 x16_15.length co30 : Value).ownBlock)))); (case aS => exact (below_size (by repeat (first | (with_reducible first | exact HB.out | apply below_alloc | apply pw_below_drewN | apply below_drew1) | exact HB.out)))); (case aL => have := LMc26.out; omega); intro v448 w29 ho hb hg hat; rw [← Ny447.out] at ho; have n0_ := Aside0.mk (Kd.V_afterv (Kd.V_apart_nil (by (with_reducible repeat (first | apply Kd.V_alloc | apply Kd.V_drewN | apply Kd.V_drew)); exact HO_0.out)) hg hat); have n1_ := Aside0.mk (Kd.R_after (Kd.R_apart_nil (by (with_reducible repeat (first | apply Kd.R_alloc | apply Kd.R_drewN | apply Kd.R_drew)); exact HO_16.out)) hg hat); have n2_ := Aside0.mk (hb); have n3_ := Aside0.mk (ho); clear HO_0; clear HO_16; clear HB; have HO_0 := n0_; have HO_16 := n1_; have HB := n2_; have HO449 := n3_; clear n0_ n1_ n2_ n3_; clear ho hb hg hat) | ((with_reducible refine gate_builtin (b := .append) (xs := #[.tmp 66, .tmp 67]) rfl ?_); (try (refine gate_guard (by rfl) ?_; dsimp only)); at_builtin; refine Kd.R_append (Kd.int .u8) (w0 := w) w.heap.size rfl (.tmp 66) (.tmp 67) 22 5 (.int .u8 0) 1 rfl Try.underlying22 info5 rfl (by decide) (by omega) v448 y447 0 [.int .u8 0] (fun k_ => (w.heap.size ≤ k_) ∧ some k_ ≠ (.slice Ao30 x16_15.length co30 : Value).ownBlock) (fun _ => False) rfl rfl ?aP (fun _ hk => hk.elim) ?aF ?aO ?aB ?aS ?aL ?_; (case aP => exact rfl); (case aB => exact (by repeat (first | (with_reducible first | exact HB.out | apply below_alloc | apply pw_below_drewN | apply below_drew1) | exact HB.out))); (case aF => exact (fun k_ hk => ⟨(Nat.le_trans (below_size (by repeat (first | (with_reducible first | exact HB.out | apply below_alloc | apply pw_below_drewN | apply below_drew1) | exact HB.out))) hk), Kd.fresh' (Kd.R_lt (by (with_reducible repeat (first | apply Kd.R_alloc | apply Kd.R_drewN | apply Kd.R_drew)); exact HO_16.out)) k_ hk⟩)); (case aO => exact (by (with_reducible repeat (first | apply Kd.R_alloc | apply Kd.R_drewN | apply Kd.R_drew)); exact HO449.out)); (case aS => exact (below_size (by repeat (first | (with_reducible first | exact HB.out | apply below_alloc | apply pw_below_drewN | apply below_drew1) | exact HB.out)))); (case aL => have := LMc27.out; omega); intro v451 w31 ho hb hg hat; rw [← Ny450.out] at ho; have n0_ := Aside0.mk (Kd.V_afterv (ok := (fun k_ => (P0_ k_ ∨ w.heap.size ≤ k_) ∧ some k_ ≠ (.slice Ao30 x16_15.length co30 : Value).ownBlock)) (by (with_reducible repeat (first | apply Kd.V_alloc | apply Kd.V_drewN | apply Kd.V_drew)); exact HO_0.out) hg hat); have n1_ := Aside0.mk (Kd.R_after (ok := (fun k_ => (w.heap.size ≤ k_))) (by (with_reducible repeat (first | apply Kd.R_alloc | apply Kd.R_drewN | apply Kd.R_drew)); exact HO_16.out) hg hat); have n2_ := Aside0.mk (hb); have n3_ := Aside0.mk (ho); clear HO_0; clear HO_16; clear HB; clear HO449; have HO_0 := n0_; have HO_16 := n1_; have HB := n2_; have HO452 := n3_; clear n0_ n1_ n2_ n3_; clear ho hb hg hat))
         (try simp only [Act.put, List.setIfInBounds_toArray, List.set_cons_zero, List.set_cons_succ])
         go_cut [18] (fun v18 wc => ∃ (kq : Nat) (x0_27 : List Int) (x16_27 : List Int) (x18_27 : List Int), Aside0 (repriselaw23_EventReads.j3 kq x0_27 a1 a4 a5 a6 x16_27 x18_27 = some r) ∧ Aside0 (kq ≤ kj15) ∧ Aside0 (Kd.V (Kd.int .u8) 5 wc w.heap.size (fun k_ => (P0_ k_ ∨ w.heap.size ≤ k_) ∧ some k_ ≠ ((.slice Ao30 x16_15.length co30) : Value).ownBlock ∧ some k_ ≠ (v18 : Value).ownBlock) (.slice A0 l0.length c0) x0_27) ∧ Aside0 (Kd.R (Kd.int .u8) 5 wc w.heap.size (fun k_ => (w.heap.size ≤ k_) ∧ some k_ ≠ (v18 : Value).ownBlock) (.slice Ao30 x16_15.length co30) x16_27) ∧ Aside0 (Kd.R (Kd.int .u8) 5 wc w.heap.size (fun k_ => (w.heap.size ≤ k_) ∧ some k_ ≠ ((.slice Ao30 x16_15.length co30) : Value).ownBlock) v18 x18_27) ∧ Aside0 (Below w.heap.size w wc))
         case first =>
          have H := HC28.out; clear HC28; by_cases c32 : (Int.tmod a6 3) = 0
          ·rw [if_pos c32] at H
           have c32b0 : ((Int.tmod a6 3) == 0) = true := beq_iff_eq.mpr c32
           have c32b1 : ((Int.tmod a6 3) != 0) = false := bne_eq_false_iff_eq.mpr c32
           clear c32; (first | rw [c32b0] | (simp only [i64_w, i32_w]; rw [c32b0]) | skip)
           by_cases c33 : (y450.length : Int) = 0
           ·rw [if_pos c33] at H
            exact absurd H (by simp)
           ·rw [if_neg c33] at H
            have c33b0 : ((y450.length : Int) == 0) = false := beq_eq_false_iff_ne.mpr c33
            have c33b1 : ((y450.length : Int) != 0) = true := bne_iff_ne.mpr c33
            have c33b2 : ¬ (y450 = []) := fun h_ => c33 (by rw [h_]; rfl)
            obtain ⟨ji34, hji34⟩ : ∃ j_ : Int, (Int.tmod (wrap64 (a4)) (y450.length : Int)) = j_ := ⟨_, rfl⟩
            replace H : (if 0 ≤ (ji34) then (if (ji34) < (y450.length : Int) then (repriselaw23_EventReads.j3 kj15 l0 a1 a4 a5 a6 x16_15 (y450.set ((ji34) : Int).toNat (Go.bits .xor .u8 (rd y450 (ji34)) a5))) else (none)) else (none)) = some r := by first | (rw [hji34] at H; exact H) | (simp only [hji34] at H ⊢; exact H)
            by_cases c35 : 0 ≤ (ji34)
            ·rw [if_pos c35] at H
             have c35b0 : decide (0 ≤ (ji34)) = true := decide_eq_true c35
             clear c35; by_cases c36 : (ji34) < (y450.length : Int)
             ·rw [if_pos c36] at H
              have c36b0 : decide ((ji34) < (y450.length : Int)) = true := decide_eq_true c36
              clear c36; obtain ⟨y454, hy454⟩ : ∃ y_ : List Int, y_ = (y450.set ((ji34) : Int).toNat (Go.bits .xor .u8 (rd y450 (ji34)) a5)) := ⟨_, rfl⟩
              replace H : (repriselaw23_EventReads.j3 kj15 l0 a1 a4 a5 a6 x16_15 y454) = some r := by first | (rw [hy454]; with_reducible exact H) | (have H2_ := (Option.bind_some _ _).symm.trans H; rw [hy454]; with_reducible exact H2_) | (have H2_ := (Option.bind_some _ _).symm.trans H; with_reducible exact H2_) | with_reducible exact H | (rw [hy454]; exact H) | exact H
              have Ny454 := Aside0.mk hy454; clear hy454; have H' := Aside0.mk H; clear H; obtain ⟨Ao38, co38, eo38⟩ := Kd.R_slice HO452.out; subst eo38; have p453 : 0 ≤ ((ji34) : Int) := of_decide_eq_true (by first | (with_reducible assumption) | assumption)
              have q453 : (ji34) < (y450.length : Int) := of_decide_eq_true (by first | (with_reducible assumption) | assumption)
              obtain ⟨ad453, e453, hx453_0⟩ := Kd.at_int (Kd.R_reads' HO452.out).2.2 (ji34) p453 q453
              cases e453; replace p453 := eq_true p453; replace q453 := eq_true q453; have p37 : 0 ≤ ((ji34) : Int) := of_decide_eq_true (by first | (with_reducible assumption) | assumption)
              have q37 : ((ji34) : Int) < ((y450.length : Int) : Int) := of_decide_eq_true (by first | (with_reducible assumption) | assumption)
              obtain ⟨go37, co37, eo37, gb37, gl37, cl37, HG37⟩ := Kd.R_form HO452.out (by omega)
              (first | cases eo37 | (injection eo37 with ea_ en_ ec_; (first | subst ea_ | (injection ea_ with ea_; subst ea_)); subst ec_; clear en_))
              have GB37 := Aside0.mk gb37; have GG37 := Aside0.mk HG37; clear gb37 gl37 HG37; (first | simp only [add_plain] at hx453_0 | skip)
              obtain ⟨hx37_0, hf37_0⟩ := Kd.R_celln 0 HO452.out ((ji34) : Int) p37 q37
              replace p37 := eq_true p37; replace q37 := eq_true q37; have HP39 := Kd.R_putg HO452.out ((ji34) : Int) (Go.bits .xor .u8 (rd y450 (ji34)) a5)
              go_wp2_with (first | ((with_reducible refine gate_store (t := 5) (p := 86) rfl ?_); refine store_event (t := 5) (p := 86) (v := ?vo_w40) (w1 := (w31.setCell ⟨go37, ((ji34) : Int).toNat, none⟩ (.int .u8 (Go.bits .xor .u8 (rd y450 (ji34)) a5)))) ?hg ?ho ?hn ?hr ?_; (case ho => rfl); (case hg => rfl); (case hn => rfl); (case hr => first | (go_simp; done) | (go_simp; rfl)); intro w40 hw; have hg : w31.grownBy w40 (some go37) := (by rw [hw]; exact HP39.2); have hp_ : Kd.R (Kd.int .u8) 5 w40 w.heap.size (fun k_ => (w.heap.size ≤ k_) ∧ some k_ ≠ (.slice Ao30 x16_15.length co30 : Value).ownBlock) (.slice (some ⟨go37, 0, none⟩) y450.length co38) y454 := (by rw [hw, Ny454.out]; exact HP39.1); clear HP39; have n0_ := Aside0.mk (Kd.V_afterv (v := (.slice (some ⟨go37, 0, none⟩) y450.length co38)) (v1 := (.slice (some ⟨go37, 0, none⟩) y450.length co38)) (ok := (fun k_ => (P0_ k_ ∨ w.heap.size ≤ k_) ∧ some k_ ≠ (.slice Ao30 x16_15.length co30 : Value).ownBlock)) (by (with_reducible repeat (first | apply Kd.V_alloc | apply Kd.V_drewN | apply Kd.V_drew)); exact HO_0.out) hg (.inl rfl)); have n1_ := Aside0.mk (Kd.R_after (v := (.slice (some ⟨go37, 0, none⟩) y450.length co38)) (v1 := (.slice (some ⟨go37, 0, none⟩) y450.length co38)) (ok := (fun k_ => (w.heap.size ≤ k_))) (by (with_reducible repeat (first | apply Kd.R_alloc | apply Kd.R_drewN | apply Kd.R_drew)); exact HO_16.out) hg (.inl rfl)); have n2_ := Aside0.mk (hp_); have n3_ := Aside0.mk ((by rw [hw]; exact below_set (HB.out) GB37.out : Below w.heap.size w w40)); clear HO_0; clear HO_16; clear HO452; clear HB; have HO_0 := n0_; have HO_16 := n1_; have HO452 := n2_; have HB := n3_; clear n0_ n1_ n2_ n3_; clear hg hw hp_))
              go_meet
              case rel => exact ⟨_, (l0), (x16_15), (y454), H', ⟨by have := HJ9.out; have := HJ15.out; first | omega | exact Nat.le_refl _⟩, ⟨by (with_reducible repeat (first | apply Kd.V_alloc | apply Kd.V_drewN | apply Kd.V_drew)); exact Kd.V_mono HO_0.out (fun _ hk => ⟨hk.1.1, ⟨hk.1.2, hk.2⟩⟩)⟩, ⟨by (with_reducible repeat (first | apply Kd.R_alloc | apply Kd.R_drewN | apply Kd.R_drew)); exact HO_16.out⟩, ⟨by (with_reducible repeat (first | apply Kd.R_alloc | apply Kd.R_drewN | apply Kd.R_drew)); exact HO452.out⟩, ⟨by repeat (first | (with_reducible first | exact HB.out | apply below_alloc | apply pw_below_drewN | apply below_drew1) | exact HB.out)⟩⟩
             ·rw [if_neg c36] at H
              exact absurd H (by simp)
            ·rw [if_neg c35] at H
             exact absurd H (by simp)
          ·rw [if_neg c32] at H
           have c32b0 : ((Int.tmod a6 3) == 0) = false := beq_eq_false_iff_ne.mpr c32
           have c32b1 : ((Int.tmod a6 3) != 0) = true := bne_iff_ne.mpr c32
           (first | rw [c32b0] | (simp only [i64_w, i32_w]; rw [c32b0]) | skip)
           by_cases c41 : (Int.tmod a6 3) = 1
           ·rw [if_pos c41] at H
            have c41b0 : ((Int.tmod a6 3) == 1) = true := beq_iff_eq.mpr c41
            have c41b1 : ((Int.tmod a6 3) != 1) = false := bne_eq_false_iff_eq.mpr c41
            clear c41; by_cases c42 : (y450.length : Int) = 0
            ·rw [if_pos c42] at H
             exact absurd H (by simp)
            ·rw [if_neg c42] at H
             have c42b0 : ((y450.length : Int) == 0) = false := beq_eq_false_iff_ne.mpr c42
             have c42b1 : ((y450.length : Int) != 0) = true := bne_iff_ne.mpr c42
             have c42b2 : ¬ (y450 = []) := fun h_ => c42 (by rw [h_]; rfl)
             obtain ⟨ji43, hji43⟩ : ∃ j_ : Int, (Int.tmod (wrap64 (a4)) (y450.length : Int)) = j_ := ⟨_, rfl⟩
             replace H : (if 0 ≤ (ji43) then (if (ji43) ≤ (y450.length : Int) then (repriselaw23_EventReads.j3 kj15 l0 a1 a4 a5 a6 x16_15 (y450.take ((ji43) : Int).toNat)) else (none)) else (none)) = some r := by first | (rw [hji43] at H; exact H) | (simp only [hji43] at H ⊢; exact H)
             by_cases c44 : 0 ≤ (ji43)
             ·rw [if_pos c44] at H
              have c44b0 := eq_true c44; have c44b1 : decide (0 ≤ (ji43)) = true := decide_eq_true c44
              clear c44; by_cases c45 : (ji43) ≤ (y450.length : Int)
              ·rw [if_pos c45] at H
               have c45b0 := eq_true c45; have c45b1 : decide ((ji43) ≤ (y450.length : Int)) = true := decide_eq_true c45
               clear c45; obtain ⟨y455, hy455⟩ : ∃ y_ : List Int, y_ = (y450.take ((ji43) : Int).toNat) := ⟨_, rfl⟩
               replace H : (repriselaw23_EventReads.j3 kj15 l0 a1 a4 a5 a6 x16_15 y455) = some r := by first | (rw [hy455]; with_reducible exact H) | (have H2_ := (Option.bind_some _ _).symm.trans H; rw [hy455]; with_reducible exact H2_) | (have H2_ := (Option.bind_some _ _).symm.trans H; with_reducible exact H2_) | with_reducible exact H | (rw [hy455]; exact H) | exact H
               have Ny455 := Aside0.mk hy455; clear hy455; have H' := Aside0.mk H; clear H; obtain ⟨Ao46, co46, eo46⟩ := Kd.R_slice HO452.out; subst eo46; have q47 : ((ji43) : Int) ≤ ((y450.length : Int) : Int) := of_decide_eq_true (by first | (with_reducible assumption) | assumption)
               obtain ⟨i047, hi047, _, hsz47, _⟩ := info_parts info5; have hcut47 := cut_to (P := Try.prog) 22 5 .i64 Try.underlying22 hi047 Ao46 y450.length co46 (ji43) (of_decide_eq_true (by first | (with_reducible assumption) | assumption)) q47 (Kd.R_reads' HO452.out).2.1
               have hr47 := Kd.R_take (m := ((ji43) : Int).toNat) HO452.out (by omega)
               have hy47 : y455.length = ((ji43) : Int).toNat := (by rw [Ny455.out, List.length_take]; omega)
               rw [← Ny455.out] at hr47
               rw [← hy47] at hr47 hcut47
               clear hy47 hi047 hsz47 HO452; have HO457 := Aside0.mk hr47; clear hr47; replace q47 := eq_true q47; (try rw [ownLen Ao46 y450.length y455.length co46] at HO_0)
               (try rw [ownLen Ao46 y450.length y455.length co46] at HO_16)
               go_wp2
               go_meet
               case rel => exact ⟨_, (l0), (x16_15), (y455), H', ⟨by have := HJ9.out; have := HJ15.out; first | omega | exact Nat.le_refl _⟩, ⟨by (with_reducible repeat (first | apply Kd.V_alloc | apply Kd.V_drewN | apply Kd.V_drew)); exact Kd.V_mono HO_0.out (fun _ hk => ⟨hk.1.1, ⟨hk.1.2, hk.2⟩⟩)⟩, ⟨by (with_reducible repeat (first | apply Kd.R_alloc | apply Kd.R_drewN | apply Kd.R_drew)); exact HO_16.out⟩, ⟨by (with_reducible repeat (first | apply Kd.R_alloc | apply Kd.R_drewN | apply Kd.R_drew)); exact HO457.out⟩, ⟨by repeat (first | (with_reducible first | exact HB.out | apply below_alloc | apply pw_below_drewN | apply below_drew1) | exact HB.out)⟩⟩
              ·rw [if_neg c45] at H
               exact absurd H (by simp)
             ·rw [if_neg c44] at H
              exact absurd H (by simp)
           ·rw [if_neg c41] at H
            have c41b0 : ((Int.tmod a6 3) == 1) = false := beq_eq_false_iff_ne.mpr c41
            have c41b1 : ((Int.tmod a6 3) != 1) = true := bne_iff_ne.mpr c41
            by_cases c48 : 0 < (y450.length : Int)
            ·rw [if_pos c48] at H
             have c48b0 : decide (0 < (y450.length : Int)) = true := decide_eq_true c48
             have c48b1 : decide (0 < y450.length) = true := decide_eq_true (by omega)
             clear c48; obtain ⟨y458, hy458⟩ : ∃ y_ : List Int, y_ = (y450.set (0 : Int).toNat a5) := ⟨_, rfl⟩
             replace H : (repriselaw23_EventReads.j3 kj15 l0 a1 a4 a5 a6 x16_15 y458) = some r := by first | (rw [hy458]; with_reducible exact H) | (have H2_ := (Option.bind_some _ _).symm.trans H; rw [hy458]; with_reducible exact H2_) | (have H2_ := (Option.bind_some _ _).symm.trans H; with_reducible exact H2_) | with_reducible exact H | (rw [hy458]; exact H) | exact H
             have Ny458 := Aside0.mk hy458; clear hy458; have H' := Aside0.mk H; clear H; have p49 : 0 ≤ (0 : Int) := (by omega)
             have q49 : (0 : Int) < ((y450.length : Int) : Int) := of_decide_eq_true (by first | (with_reducible assumption) | assumption)
             have qi49 : (0 < y450.length) = True := eq_true (by omega)
             obtain ⟨go49, co49, eo49, gb49, gl49, cl49, HG49⟩ := Kd.R_form HO452.out (by omega)
             (first | cases eo49 | (injection eo49 with ea_ en_ ec_; (first | subst ea_ | (injection ea_ with ea_; subst ea_)); subst ec_; clear en_))
             have GB49 := Aside0.mk gb49; have GG49 := Aside0.mk HG49; clear gb49 gl49 HG49; obtain ⟨hx49_0, hf49_0⟩ := Kd.R_celln 0 HO452.out (0 : Int) p49 q49
             (try rw [show ((0 : Int)).toNat = 0 from rfl] at hx49_0)
             (try simp only [Nat.reduceMul, Nat.zero_mul, Nat.zero_add, Nat.reduceAdd] at hx49_0)
             (try rw [show ((0 : Int)).toNat = 0 from rfl] at hf49_0)
             (try simp only [Nat.reduceMul, Nat.zero_mul, Nat.zero_add, Nat.reduceAdd] at hf49_0)
             replace p49 := eq_true p49; replace q49 := eq_true q49; have HP50 := Kd.R_putg HO452.out (0 : Int) a5
             go_wp2_with (first | ((with_reducible refine gate_store (t := 5) (p := 73) rfl ?_); refine store_event (t := 5) (p := 73) (v := ?vo_w51) (w1 := (w31.setCell ⟨go49, (0 : Int).toNat, none⟩ (.int .u8 a5))) ?hg ?ho ?hn ?hr ?_; (case ho => rfl); (case hg => rfl); (case hn => rfl); (case hr => first | (go_simp; done) | (go_simp; rfl)); intro w51 hw; have hg : w31.grownBy w51 (some go49) := (by rw [hw]; exact HP50.2); have hp_ : Kd.R (Kd.int .u8) 5 w51 w.heap.size (fun k_ => (w.heap.size ≤ k_) ∧ some k_ ≠ (.slice Ao30 x16_15.length co30 : Value).ownBlock) (.slice (some ⟨go49, 0, none⟩) y450.length co49) y458 := (by rw [hw, Ny458.out]; exact HP50.1); clear HP50; have n0_ := Aside0.mk (Kd.V_afterv (v := (.slice (some ⟨go49, 0, none⟩) y450.length co49)) (v1 := (.slice (some ⟨go49, 0, none⟩) y450.length co49)) (ok := (fun k_ => (P0_ k_ ∨ w.heap.size ≤ k_) ∧ some k_ ≠ (.slice Ao30 x16_15.length co30 : Value).ownBlock)) (by (with_reducible repeat (first | apply Kd.V_alloc | apply Kd.V_drewN | apply Kd.V_drew)); exact HO_0.out) hg (.inl rfl)); have n1_ := Aside0.mk (Kd.R_after (v := (.slice (some ⟨go49, 0, none⟩) y450.length co49)) (v1 := (.slice (some ⟨go49, 0, none⟩) y450.length co49)) (ok := (fun k_ => (w.heap.size ≤ k_))) (by (with_reducible repeat (first | apply Kd.R_alloc | apply Kd.R_drewN | apply Kd.R_drew)); exact HO_16.out) hg (.inl rfl)); have n2_ := Aside0.mk (hp_); have n3_ := Aside0.mk ((by rw [hw]; exact below_set (HB.out) GB49.out : Below w.heap.size w w51)); clear HO_0; clear HO_16; clear HO452; clear HB; have HO_0 := n0_; have HO_16 := n1_; have HO452 := n2_; have HB := n3_; clear n0_ n1_ n2_ n3_; clear hg hw hp_))
             go_meet
             case rel => exact ⟨_, (l0), (x16_15), (y458), H', ⟨by have := HJ9.out; have := HJ15.out; first | omega | exact Nat.le_refl _⟩, ⟨by (with_reducible repeat (first | apply Kd.V_alloc | apply Kd.V_drewN | apply Kd.V_drew)); exact Kd.V_mono HO_0.out (fun _ hk => ⟨hk.1.1, ⟨hk.1.2, hk.2⟩⟩)⟩, ⟨by (with_reducible repeat (first | apply Kd.R_alloc | apply Kd.R_drewN | apply Kd.R_drew)); exact HO_16.out⟩, ⟨by (with_reducible repeat (first | apply Kd.R_alloc | apply Kd.R_drewN | apply Kd.R_drew)); exact HO452.out⟩, ⟨by repeat (first | (with_reducible first | exact HB.out | apply below_alloc | apply pw_below_drewN | apply below_drew1) | exact HB.out)⟩⟩
            ·rw [if_neg c48] at H
             exact absurd H (by simp)
         case rest =>
          clear HC28
          try clear c1
          try clear c2
          try clear p2
          try clear c3
          try clear p3
          try clear q3
          try clear hx3
          try clear c4
          try clear p4
          try clear q4
          try clear hx4
          try clear qi4
          try clear p6
          try clear c9
          try clear c11
          try clear c12
          try clear c12b0
          try clear c12b1
          try clear c13
          try clear c13b0
          try clear c13b1
          try clear c14
          try clear c18
          try clear c18b0
          try clear c19
          try clear c19b0
          try clear c20
          try clear c20b0
          try clear c26
          try clear c27
          try clear c32
          try clear c32b0
          try clear c32b1
          try clear c33
          try clear c33b0
          try clear c33b1
          try clear c33b2
          try clear c35
          try clear c35b0
          try clear c36
          try clear c36b0
          try clear p37
          try clear q37
          try clear hx37
          try clear hf37
          try clear c41
          try clear c41b0
          try clear c41b1
          try clear c42
          try clear c42b0
          try clear c42b1
          try clear c42b2
          try clear c44
          try clear c44b0
          try clear c44b1
          try clear p44
          try clear q44
          try clear hx44
          try clear c45
          try clear c45b0
          try clear c45b1
          try clear p45
          try clear q45
          try clear hx45
          try clear q47
          try clear c48
          try clear c48b0
          try clear c48b1
          try clear p49
          try clear q49
          try clear hx49
          try clear qi49
          try clear hf49
          try clear hx37_0
          try clear hx442_0
          try clear hx442_1
          try clear hx442_2
          try clear hx442_3
          try clear hx442_4
          try clear hx453_0
          try clear hx49_0
          try clear p2
          try clear p37
          try clear p4
          try clear p442
          try clear p453
          try clear p49
          try clear p6
          try clear q37
          try clear q4
          try clear q442
          try clear q453
          try clear q47
          try clear q49
          obtain ⟨kq, x0_27, x16_27, x18_27, HA, HJ27, HO_0, HO_16, HO_18, HB⟩ := hcut; have hl0_27 := (Kd.V_reads' HO_0.out).1
          rw [hl0_27] at HO_0
          (try simp only [hl0_27])
          (try simp only [hl0_27] at HO_16)
          (try simp only [hl0_27] at HO_18)
          have hl16_27 := (Kd.R_reads' HO_16.out).1
          rw [hl16_27] at HO_16
          (try simp only [hl16_27])
          (try simp only [hl16_27] at HO_0)
          (try simp only [hl16_27] at HO_18)
          cases kq with
          | zero => exact absurd HA.out (by simp [repriselaw23_EventReads.j3])
          | succ kj27 =>
           have H := HA.out; clear HA; simp only [repriselaw23_EventReads.j3] at H
           obtain ⟨y459, hy459⟩ : ∃ y_ : List Int, y_ = (([a5, Int.tmod a6 5, (a4) % 256, (a4 / 256) % 256] : List Int)) := ⟨_, rfl⟩
           replace H : ((some (([x0_27, x16_27, x18_27, y459, (([0, 2, 232, (7 + (Int.tmod a6 2)) % 256, 1] : List Int)), (([0, 0, 129, 128, 64] : List Int))] : List (List Int)) : List (List Int))).bind fun y468 => (repriselaw23_EventReads.l1 kj27 a1 a5 y468 (y468.length : Int) 0)) = some r := by first | (rw [hy459]; with_reducible exact H) | (have H2_ := (Option.bind_some _ _).symm.trans H; rw [hy459]; with_reducible exact H2_) | (have H2_ := (Option.bind_some _ _).symm.trans H; with_reducible exact H2_) | with_reducible exact H | (rw [hy459]; exact H) | exact H
           have Ny459 := Aside0.mk hy459; clear hy459; obtain ⟨y462, hy462⟩ : ∃ y_ : List Int, y_ = (([0, 2, 232, (7 + (Int.tmod a6 2)) % 256, 1] : List Int)) := ⟨_, rfl⟩
           replace H : ((some (([x0_27, x16_27, x18_27, y459, y462, (([0, 0, 129, 128, 64] : List Int))] : List (List Int)) : List (List Int))).bind fun y468 => (repriselaw23_EventReads.l1 kj27 a1 a5 y468 (y468.length : Int) 0)) = some r := by first | (rw [hy462]; with_reducible exact H) | (have H2_ := (Option.bind_some _ _).symm.trans H; rw [hy462]; with_reducible exact H2_) | (have H2_ := (Option.bind_some _ _).symm.trans H; with_reducible exact H2_) | with_reducible exact H | (rw [hy462]; exact H) | exact H
           have Ny462 := Aside0.mk hy462; clear hy462; obtain ⟨y465, hy465⟩ : ∃ y_ : List Int, y_ = (([0, 0, 129, 128, 64] : List Int)) := ⟨_, rfl⟩
           replace H : ((some (([x0_27, x16_27, x18_27, y459, y462, y465] : List (List Int)) : List (List Int))).bind fun y468 => (repriselaw23_EventReads.l1 kj27 a1 a5 y468 (y468.length : Int) 0)) = some r := by first | (rw [hy465]; with_reducible exact H) | (have H2_ := (Option.bind_some _ _).symm.trans H; rw [hy465]; with_reducible exact H2_) | (have H2_ := (Option.bind_some _ _).symm.trans H; with_reducible exact H2_) | with_reducible exact H | (rw [hy465]; exact H) | exact H
           have Ny465 := Aside0.mk hy465; clear hy465; obtain ⟨y468, hy468⟩ : ∃ y_ : List (List Int), y_ = (([x0_27, x16_27, x18_27, y459, y462, y465] : List (List Int))) := ⟨_, rfl⟩
           replace H : (repriselaw23_EventReads.l1 kj27 a1 a5 y468 (y468.length : Int) 0) = some r := by first | (rw [hy468]; with_reducible exact H) | (have H2_ := (Option.bind_some _ _).symm.trans H; rw [hy468]; with_reducible exact H2_) | (have H2_ := (Option.bind_some _ _).symm.trans H; with_reducible exact H2_) | with_reducible exact H | (rw [hy468]; exact H) | exact H
           have Ny468 := Aside0.mk hy468; clear hy468; have H' := Aside0.mk H; clear H; go_wp2_with (first | ((with_reducible refine gate_dst (N := 107) rfl ?_); (try (refine gate_guard (by rfl) ?_; dsimp only)); refine Kd.R_lit (Kd.int .u8) _ 5 ?hg (N := 107) ?hd (xs := ([a5, Int.tmod a6 5, (a4) % 256, (a4 / 256) % 256] : List Int)) (inner := [.int .u8 a5, .int .u8 (Int.tmod a6 5), .int .u8 ((a4) % 256), .int .u8 ((a4 / 256) % 256)]) (ok := fun _ => True) (okp := fun _ => True) ?hr ?hp (fun _ hk => hk) trivial (Below.refl _ _) (Nat.le_refl _) (by simp) ?_; (case hd => rfl); (case hg => rfl); (case hr => first | (go_simp; done) | (go_simp; rfl)); (case hp => exact (Reps.one (show Kd.M (Kd.int .u8) _ _ _ a5 [.int .u8 a5] from rfl) (Reps.one (show Kd.M (Kd.int .u8) _ _ _ (Int.tmod a6 5) [.int .u8 (Int.tmod a6 5)] from rfl) (Reps.one (show Kd.M (Kd.int .u8) _ _ _ ((a4) % 256) [.int .u8 ((a4) % 256)] from rfl) (Reps.one (show Kd.M (Kd.int .u8) _ _ _ ((a4 / 256) % 256) [.int .u8 ((a4 / 256) % 256)] from rfl) (Reps.none _ _)))))); intro v460 w52 ho53 hb hg_ hnew_; clear hg_ hnew_; (first | rw [← Ny459.out] at ho53 | (simp only [Int.reduceToNat] at ho53; rw [← Ny459.out] at ho53)); have n0_ := Aside0.mk (Kd.V_elder' (by (with_reducible repeat (first | apply Kd.V_alloc | apply Kd.V_drewN | apply Kd.V_drew)); exact HO_0.out) (Kd.R_base ho53) hb); have n1_ := Aside0.mk (Kd.R_elder' (by (with_reducible repeat (first | apply Kd.R_alloc | apply Kd.R_drewN | apply Kd.R_drew)); exact HO_16.out) (Kd.R_base ho53) hb); have n2_ := Aside0.mk (Kd.R_elder' (by (with_reducible repeat (first | apply Kd.R_alloc | apply Kd.R_drewN | apply Kd.R_drew)); exact HO_18.out) (Kd.R_base ho53) hb); have n3_ := Aside0.mk (Kd.R_lower (Kd.R_new' (Kd.R_new' (Kd.R_newM (M := fun k_ => (w.heap.size ≤ k_)) ho53 (below_size (by repeat (first | (with_reducible first | exact HB.out | apply below_alloc | apply pw_below_drewN | apply below_drew1) | exact HB.out))) (fun k_ h_ => h_)) (Kd.R_lt (by (with_reducible repeat (first | apply Kd.R_alloc | apply Kd.R_drewN | apply Kd.R_drew)); exact HO_16.out))) (Kd.R_lt (by (with_reducible repeat (first | apply Kd.R_alloc | apply Kd.R_drewN | apply Kd.R_drew)); exact HO_18.out))) (below_size (by repeat (first | (with_reducible first | exact HB.out | apply below_alloc | apply pw_below_drewN | apply below_drew1) | exact HB.out)))); have n4_ := Aside0.mk (below_step (by repeat (first | (with_reducible first | exact HB.out | apply below_alloc | apply pw_below_drewN | apply below_drew1) | exact HB.out)) hb); clear HO_0; clear HO_16; clear HO_18; clear HB; have HO_0 := n0_; have HO_16 := n1_; have HO_18 := n2_; have HO461 := n3_; have HB := n4_; clear n0_ n1_ n2_ n3_ n4_; clear hb ho53) | ((with_reducible refine gate_dst (N := 111) rfl ?_); (try (refine gate_guard (by rfl) ?_; dsimp only)); refine Kd.R_lit (Kd.int .u8) _ 5 ?hg (N := 111) ?hd (xs := ([0, 2, 232, (7 + (Int.tmod a6 2)) % 256, 1] : List Int)) (inner := [.int .u8 0, .int .u8 2, .int .u8 232, .int .u8 ((7 + (Int.tmod a6 2)) % 256), .int .u8 1]) (ok := fun _ => True) (okp := fun _ => True) ?hr ?hp (fun _ hk => hk) trivial (Below.refl _ _) (Nat.le_refl _) (by simp) ?_; (case hd => rfl); (case hg => rfl); (case hr => first | (go_simp; done) | (go_simp; rfl)); (case hp => exact (Reps.one (show Kd.M (Kd.int .u8) _ _ _ 0 [.int .u8 0] from rfl) (Reps.one (show Kd.M (Kd.int .u8) _ _ _ 2 [.int .u8 2] from rfl) (Reps.one (show Kd.M (Kd.int .u8) _ _ _ 232 [.int .u8 232] from rfl) (Reps.one (show Kd.M (Kd.int .u8) _ _ _ ((7 + (Int.tmod a6 2)) % 256) [.int .u8 ((7 + (Int.tmod a6 2)) % 256)] from rfl) (Reps.one (show Kd.M (Kd.int .u8) _ _ _ 1 [.int .u8 1] from rfl) (Reps.none _ _))))))); intro v463 w54 ho55 hb hg_ hnew_; clear hg_ hnew_; (first | rw [← Ny462.out] at ho55 | (simp only [Int.reduceToNat] at ho55; rw [← Ny462.out] at ho55)); have n0_ := Aside0.mk (Kd.V_elder' (by (with_reducible repeat (first | apply Kd.V_alloc | apply Kd.V_drewN | apply Kd.V_drew)); exact HO_0.out) (Kd.R_base ho55) hb); have n1_ := Aside0.mk (Kd.R_elder' (by (with_reducible repeat (first | apply Kd.R_alloc | apply Kd.R_drewN | apply Kd.R_drew)); exact HO_16.out) (Kd.R_base ho55) hb); have n2_ := Aside0.mk (Kd.R_elder' (by (with_reducible repeat (first | apply Kd.R_alloc | apply Kd.R_drewN | apply Kd.R_drew)); exact HO_18.out) (Kd.R_base ho55) hb); have n3_ := Aside0.mk (Kd.R_elder' (by (with_reducible repeat (first | apply Kd.R_alloc | apply Kd.R_drewN | apply Kd.R_drew)); exact HO461.out) (Kd.R_base ho55) hb); have n4_ := Aside0.mk (Kd.R_lower (Kd.R_new' (Kd.R_new' (Kd.R_new' (Kd.R_newM (M := fun k_ => (w.heap.size ≤ k_)) ho55 (below_size (by repeat (first | (with_reducible first | exact HB.out | apply below_alloc | apply pw_below_drewN | apply below_drew1) | exact HB.out))) (fun k_ h_ => h_)) (Kd.R_lt (by (with_reducible repeat (first | apply Kd.R_alloc | apply Kd.R_drewN | apply Kd.R_drew)); exact HO_16.out))) (Kd.R_lt (by (with_reducible repeat (first | apply Kd.R_alloc | apply Kd.R_drewN | apply Kd.R_drew)); exact HO_18.out))) (Kd.R_lt (by (with_reducible repeat (first | apply Kd.R_alloc | apply Kd.R_drewN | apply Kd.R_drew)); exact HO461.out))) (below_size (by repeat (first | (with_reducible first | exact HB.out | apply below_alloc | apply pw_below_drewN | apply below_drew1) | exact HB.out)))); have n5_ := Aside0.mk (below_step (by repeat (first | (with_reducible first | exact HB.out | apply below_alloc | apply pw_below_drewN | apply below_drew1) | exact HB.out)) hb); clear HO_0; clear HO_16; clear HO_18; clear HO461; clear HB; have HO_0 := n0_; have HO_16 := n1_; have HO_18 := n2_; have HO461 := n3_; have HO464 := n4_; have HB := n5_; clear n0_ n1_ n2_ n3_ n4_ n5_; clear hb ho55) | ((with_reducible refine gate_dst (N := 112) rfl ?_); (try (refine gate_guard (by rfl) ?_; dsimp only)); refine Kd.R_lit (Kd.int .u8) _ 5 ?hg (N := 112) ?hd (xs := ([0, 0, 129, 128, 64] : List Int)) (inner := [.int .u8 0, .int .u8 0, .int .u8 129, .int .u8 128, .int .u8 64]) (ok := fun _ => True) (okp := fun _ => True) ?hr ?hp (fun _ hk => hk) trivial (Below.refl _ _) (Nat.le_refl _) (by simp) ?_; (case hd => rfl); (case hg => rfl); (case hr => first | (go_simp; done) | (go_simp; rfl)); (case hp => exact (Reps.one (show Kd.M (Kd.int .u8) _ _ _ 0 [.int .u8 0] from rfl) (Reps.one (show Kd.M (Kd.int .u8) _ _ _ 0 [.int .u8 0] from rfl) (Reps.one (show Kd.M (Kd.int .u8) _ _ _ 129 [.int .u8 129] from rfl) (Reps.one (show Kd.M (Kd.int .u8) _ _ _ 128 [.int .u8 128] from rfl) (Reps.one (show Kd.M (Kd.int .u8) _ _ _ 64 [.int .u8 64] from rfl) (Reps.none _ _))))))); intro v466 w56 ho57 hb hg_ hnew_; clear hg_ hnew_; (first | rw [← Ny465.out] at ho57 | (simp only [Int.reduceToNat] at ho57; rw [← Ny465.out] at ho57)); have n0_ := Aside0.mk (Kd.V_elder' (by (with_reducible repeat (first | apply Kd.V_alloc | apply Kd.V_drewN | apply Kd.V_drew)); exact HO_0.out) (Kd.R_base ho57) hb); have n1_ := Aside0.mk (Kd.R_elder' (by (with_reducible repeat (first | apply Kd.R_alloc | apply Kd.R_drewN | apply Kd.R_drew)); exact HO_16.out) (Kd.R_base ho57) hb); have n2_ := Aside0.mk (Kd.R_elder' (by (with_reducible repeat (first | apply Kd.R_alloc | apply Kd.R_drewN | apply Kd.R_drew)); exact HO_18.out) (Kd.R_base ho57) hb); have n3_ := Aside0.mk (Kd.R_elder' (by (with_reducible repeat (first | apply Kd.R_alloc | apply Kd.R_drewN | apply Kd.R_drew)); exact HO461.out) (Kd.R_base ho57) hb); have n4_ := Aside0.mk (Kd.R_elder' (by (with_reducible repeat (first | apply Kd.R_alloc | apply Kd.R_drewN | apply Kd.R_drew)); exact HO464.out) (Kd.R_base ho57) hb); have n5_ := Aside0.mk (Kd.R_lower (Kd.R_new' (Kd.R_new' (Kd.R_new' (Kd.R_new' (Kd.R_newM (M := fun k_ => (w.heap.size ≤ k_)) ho57 (below_size (by repeat (first | (with_reducible first | exact HB.out | apply below_alloc | apply pw_below_drewN | apply below_drew1) | exact HB.out))) (fun k_ h_ => h_)) (Kd.R_lt (by (with_reducible repeat (first | apply Kd.R_alloc | apply Kd.R_drewN | apply Kd.R_drew)); exact HO_16.out))) (Kd.R_lt (by (with_reducible repeat (first | apply Kd.R_alloc | apply Kd.R_drewN | apply Kd.R_drew)); exact HO_18.out))) (Kd.R_lt (by (with_reducible repeat (first | apply Kd.R_alloc | apply Kd.R_drewN | apply Kd.R_drew)); exact HO461.out))) (Kd.R_lt (by (with_reducible repeat (first | apply Kd.R_alloc | apply Kd.R_drewN | apply Kd.R_drew)); exact HO464.out))) (below_size (by repeat (first | (with_reducible first | exact HB.out | apply below_alloc | apply pw_below_drewN | apply below_drew1) | exact HB.out)))); have n6_ := Aside0.mk (below_step (by repeat (first | (with_reducible first | exact HB.out | apply below_alloc | apply pw_below_drewN | apply below_drew1) | exact HB.out)) hb); clear HO_0; clear HO_16; clear HO_18; clear HO461; clear HO464; clear HB; have HO_0 := n0_; have HO_16 := n1_; have HO_18 := n2_; have HO461 := n3_; have HO464 := n4_; have HO467 := n5_; have HB := n6_; clear n0_ n1_ n2_ n3_ n4_ n5_ n6_; clear hb ho57; obtain ⟨Ao58, co58, eo58⟩ := Kd.R_slice HO_18.out; subst eo58; obtain ⟨Ao59, co59, eo59⟩ := Kd.R_slice HO461.out; subst eo59; obtain ⟨Ao60, co60, eo60⟩ := Kd.R_slice HO464.out; subst eo60; obtain ⟨Ao61, co61, eo61⟩ := Kd.R_slice HO467.out; subst eo61) | ((with_reducible refine gate_dst (N := 113) rfl ?_); (try (refine gate_guard (by rfl) ?_; dsimp only)); refine Kd.N_lit (Kd.slice 5 (Kd.int .u8)) _ 22 ?hg (N' := 113) ?hd (xs := ([x0_27, x16_27, x18_27, y459, y462, y465] : List (List Int))) (inner := [.slice A0 x0_27.length c0, .slice Ao30 x16_27.length co30, .slice Ao58 x18_27.length co58, .slice Ao59 y459.length co59, .slice Ao60 y462.length co60, .slice Ao61 y465.length co61]) (ok := (fun k_ => (P0_ k_ ∨ w.heap.size ≤ k_))) (okp := (fun k_ => (P0_ k_ ∨ w.heap.size ≤ k_))) ?hr ?hp (fun _ hk => hk) ((show ∀ k_, w56.heap.size ≤ k_ → (fun k_ => (P0_ k_ ∨ w.heap.size ≤ k_)) k_ from fun k_ hk => (.inr (Nat.le_trans (below_size (by repeat (first | (with_reducible first | exact HB.out | apply below_alloc | apply pw_below_drewN | apply below_drew1) | exact HB.out))) hk))) _ (Nat.le_refl _)) (Below.refl _ _) (Nat.le_refl _) (by simp) ?_; (case hd => rfl); (case hg => rfl); (case hr => first | (go_simp; done) | (go_simp; rfl)); (case hp => exact (Reps.one (show Kd.FK (Kd.slice 5 (Kd.int .u8)) _ _ x0_27 [.slice A0 x0_27.length c0] from (Kd.FK_slice_mk (Kd.V_reads' (Kd.V_mono (ok' := (fun k_ => (P0_ k_ ∨ w.heap.size ≤ k_))) (HO_0.out) (fun k_ hk => hk.1.1.1.1))).2.1 (Kd.V_F (Kd.V_mono (ok' := (fun k_ => (P0_ k_ ∨ w.heap.size ≤ k_))) (HO_0.out) (fun k_ hk => hk.1.1.1.1))))) (Reps.one (show Kd.FK (Kd.slice 5 (Kd.int .u8)) _ _ x16_27 [.slice Ao30 x16_27.length co30] from (Kd.FK_slice_mk (Kd.R_reads' (Kd.R_mono (ok' := (fun k_ => (P0_ k_ ∨ w.heap.size ≤ k_))) (HO_16.out) (fun k_ hk => (.inr (hk.1.1.1.1))))).2.1 (Kd.R_F (Kd.R_mono (ok' := (fun k_ => (P0_ k_ ∨ w.heap.size ≤ k_))) (HO_16.out) (fun k_ hk => (.inr (hk.1.1.1.1))))))) (Reps.one (show Kd.FK (Kd.slice 5 (Kd.int .u8)) _ _ x18_27 [.slice Ao58 x18_27.length co58] from (Kd.FK_slice_mk (Kd.R_reads' (Kd.R_mono (ok' := (fun k_ => (P0_ k_ ∨ w.heap.size ≤ k_))) (HO_18.out) (fun k_ hk => (.inr (hk.1.1.1.1))))).2.1 (Kd.R_F (Kd.R_mono (ok' := (fun k_ => (P0_ k_ ∨ w.heap.size ≤ k_))) (HO_18.out) (fun k_ hk => (.inr (hk.1.1.1.1))))))) (Reps.one (show Kd.FK (Kd.slice 5 (Kd.int .u8)) _ _ y459 [.slice Ao59 y459.length co59] from (Kd.FK_slice_mk (Kd.R_reads' (Kd.R_mono (ok' := (fun k_ => (P0_ k_ ∨ w.heap.size ≤ k_))) (HO461.out) (fun k_ hk => (.inr (hk.1.1.1.1.1))))).2.1 (Kd.R_F (Kd.R_mono (ok' := (fun k_ => (P0_ k_ ∨ w.heap.size ≤ k_))) (HO461.out) (fun k_ hk => (.inr (hk.1.1.1.1.1))))))) (Reps.one (show Kd.FK (Kd.slice 5 (Kd.int .u8)) _ _ y462 [.slice Ao60 y462.length co60] from (Kd.FK_slice_mk (Kd.R_reads' (Kd.R_mono (ok' := (fun k_ => (P0_ k_ ∨ w.heap.size ≤ k_))) (HO464.out) (fun k_ hk => (.inr (hk.1.1.1.1.1))))).2.1 (Kd.R_F (Kd.R_mono (ok' := (fun k_ => (P0_ k_ ∨ w.heap.size ≤ k_))) (HO464.out) (fun k_ hk => (.inr (hk.1.1.1.1.1))))))) (Reps.one (show Kd.FK (Kd.slice 5 (Kd.int .u8)) _ _ y465 [.slice Ao61 y465.length co61] from (Kd.FK_slice_mk (Kd.R_reads' (Kd.R_mono (ok' := (fun k_ => (P0_ k_ ∨ w.heap.size ≤ k_))) (HO467.out) (fun k_ hk => (.inr (hk.1.1.1.1.1))))).2.1 (Kd.R_F (Kd.R_mono (ok' := (fun k_ => (P0_ k_ ∨ w.heap.size ≤ k_))) (HO467.out) (fun k_ hk => (.inr (hk.1.1.1.1.1))))))) (Reps.none _ _)))))))); intro v469 w62 ho63 hb hg_ hnew_; clear hg_ hnew_; (first | rw [← Ny468.out] at ho63 | (simp only [Int.reduceToNat] at ho63; rw [← Ny468.out] at ho63)); have n0_ := Aside0.mk (Kd.V_elder' (by (with_reducible repeat (first | apply Kd.V_alloc | apply Kd.V_drewN | apply Kd.V_drew)); exact HO_0.out) (Kd.N_base ho63) hb); have n1_ := Aside0.mk (Kd.N_lower ho63 (below_size (by repeat (first | (with_reducible first | exact HB.out | apply below_alloc | apply pw_below_drewN | apply below_drew1) | exact HB.out)))); have n2_ := Aside0.mk (below_step (by repeat (first | (with_reducible first | exact HB.out | apply below_alloc | apply pw_below_drewN | apply below_drew1) | exact HB.out)) hb); clear HO_0; clear HB; clear HO461; clear HO464; clear HO467; clear HO_16; clear HO_18; have HO_0 := n0_; have HO470 := n1_; have HB := n2_; clear n0_ n1_ n2_; clear hb ho63; obtain ⟨Ao64, co64, eo64⟩ := Kd.N_slice HO470.out; subst eo64))
           go_loopg [115] kj27 (fun kq v115 w' => ∃ (x115_4 : Int), v115 = .int .i64 x115_4 ∧ Aside0 (repriselaw23_EventReads.l1 kq a1 a5 y468 (y468.length : Int) x115_4 = some r) ∧ Aside0 (kq ≤ kj27) ∧ Aside0 (Kd.N (Kd.slice 5 (Kd.int .u8)) 22 w' w.heap.size (fun k_ => (P0_ k_ ∨ w.heap.size ≤ k_)) (.slice Ao64 y468.length co64) y468) ∧ Aside0 (Below w.heap.size w w'))
           case atStart => exact ⟨(0), (by first | rfl | (simp; done) | (simp [*]; done)), H', ⟨Nat.le_refl _⟩, ⟨by (try simp only [hl0_27]); (try simp only [hl16_27]); (with_reducible repeat (first | apply Kd.N_alloc | apply Kd.N_drewN | apply Kd.N_drew)); exact HO470.out⟩, ⟨by repeat (first | (with_reducible first | exact HB.out | apply below_alloc | apply pw_below_drewN | apply below_drew1) | exact HB.out)⟩⟩
           case round =>
            clear H'
            try clear c1
            try clear c2
            try clear p2
            try clear c3
            try clear p3
            try clear q3
            try clear hx3
            try clear c4
            try clear p4
            try clear q4
            try clear hx4
            try clear qi4
            try clear p6
            try clear c9
            try clear c11
            try clear c12
            try clear c12b0
            try clear c12b1
            try clear c13
            try clear c13b0
            try clear c13b1
            try clear c14
            try clear c18
            try clear c18b0
            try clear c19
            try clear c19b0
            try clear c20
            try clear c20b0
            try clear c26
            try clear c27
            try clear c32
            try clear c32b0
            try clear c32b1
            try clear c33
            try clear c33b0
            try clear c33b1
            try clear c33b2
            try clear c35
            try clear c35b0
            try clear c36
            try clear c36b0
            try clear p37
            try clear q37
            try clear hx37
            try clear hf37
            try clear c41
            try clear c41b0
            try clear c41b1
            try clear c42
            try clear c42b0
            try clear c42b1
            try clear c42b2
            try clear c44
            try clear c44b0
            try clear c44b1
            try clear p44
            try clear q44
            try clear hx44
            try clear c45
            try clear c45b0
            try clear c45b1
            try clear p45
            try clear q45
            try clear hx45
            try clear q47
            try clear c48
            try clear c48b0
            try clear c48b1
            try clear p49
            try clear q49
            try clear hx49
            try clear qi49
            try clear hf49
            try clear p64
            try clear hx37_0
            try clear hx442_0
            try clear hx442_1
            try clear hx442_2
            try clear hx442_3
            try clear hx442_4
            try clear hx453_0
            try clear hx49_0
            try clear p2
            try clear p3
            try clear p37
            try clear p4
            try clear p44
            try clear p442
            try clear p45
            try clear p453
            try clear p49
            try clear p6
            try clear q3
            try clear q37
            try clear q4
            try clear q44
            try clear q442
            try clear q45
            try clear q453
            try clear q47
            try clear q49
            obtain ⟨x115_4, rfl, HA, HK4, HO_113, HB⟩ := hrel; cases gk with
            | zero => exact absurd HA.out (by simp [repriselaw23_EventReads.l1])
            | succ k4 =>
             have H := HA.out; clear HA; simp only [repriselaw23_EventReads.l1] at H
             by_cases c65 : x115_4 < (y468.length : Int)
             ·rw [if_pos c65] at H
              have c65b0 : decide (x115_4 < (y468.length : Int)) = true := decide_eq_true c65
              clear c65; by_cases c66 : 0 ≤ x115_4
              ·rw [if_pos c66] at H
               have c66b0 : decide (0 ≤ x115_4) = true := decide_eq_true c66
               clear c66; by_cases c67 : x115_4 < (y468.length : Int)
               ·rw [if_pos c67] at H
                have c67b0 : decide (x115_4 < (y468.length : Int)) = true := decide_eq_true c67
                clear c67; obtain ⟨y472, hy472⟩ : ∃ y_ : List Int, y_ = (([a1, 0, wrap64 (4611686018427387904 - (wrap64 (Int.tmod a5 4)))] : List Int)) := ⟨_, rfl⟩
                replace H : (repriselaw23_EventReads.l2 k4 a1 a5 (rd_L2 y468 x115_4) y468 (y468.length : Int) x115_4 y472 (y472.length : Int) 0) = some r := by first | (rw [hy472]; with_reducible exact H) | (have H2_ := (Option.bind_some _ _).symm.trans H; rw [hy472]; with_reducible exact H2_) | (have H2_ := (Option.bind_some _ _).symm.trans H; with_reducible exact H2_) | with_reducible exact H | (rw [hy472]; exact H) | exact H
                have Ny472 := Aside0.mk hy472; clear hy472; have H' := Aside0.mk H; clear H; have p471 : 0 ≤ (x115_4 : Int) := of_decide_eq_true (by first | (with_reducible assumption) | assumption)
                have q471 : x115_4 < (y468.length : Int) := of_decide_eq_true (by first | (with_reducible assumption) | assumption)
                obtain ⟨ad471, A471_0, c471_0, e471, hx471_0, hl471_0, hi471_0⟩ := at_L2 (Kd.N_reads' HO_113.out).2.2 x115_4 p471 q471
                cases e471; obtain ⟨ce471, hce471, hMe471, hcc471⟩ := Kd.N_get HO_113.out [] x115_4 p471 (by first | exact q471 | exact of_decide_eq_true (by first | (with_reducible assumption) | assumption) | (have e_ := (Kd.N_reads' HO_113.out).1; omega))
                obtain ⟨ua471_0, uc471_0, rfl, ul471_0, ge471_0⟩ := Kd.FK_slice_open hMe471; have hv471_0 := hcc471 0 _ rfl; rw [Nat.add_zero, show ((Kd.slice 5 (Kd.int .u8))).sz = 1 from rfl, Nat.mul_one] at hv471_0
                replace hv471_0 := Option.some.inj (hv471_0.symm.trans hx471_0)
                injection hv471_0 with hva_ hvn_ hvc_
                rw [hva_] at ge471_0
                rw [hvc_] at ul471_0
                have HL471_0 := Aside0.mk (show Kd.V (Kd.int .u8) 5 _ w.heap.size _ _ (rd_L2 y468 x115_4) from Kd.V_mk ul471_0 ge471_0)
                clear hva_ hvn_ hvc_ ge471_0 ul471_0 hcc471 hce471; have HR471_0 := Aside0.mk hi471_0; have HC471_0 := Aside0.mk hl471_0; clear hi471_0 hl471_0; replace p471 := eq_true p471; replace q471 := eq_true q471; go_wp2_with (first | ((with_reducible refine gate_dst (N := 124) rfl ?_); (try (refine gate_guard (by rfl) ?_; dsimp only)); refine Kd.R_lit (Kd.int .i64) _ 2 ?hg (N := 124) ?hd (xs := ([a1, 0, wrap64 (4611686018427387904 - (wrap64 (Int.tmod a5 4)))] : List Int)) (inner := [.int .i64 a1, .int .i64 0, .int .i64 (wrap64 (4611686018427387904 - (wrap64 (Int.tmod a5 4))))]) (ok := fun _ => True) (okp := fun _ => True) ?hr ?hp (fun _ hk => hk) trivial (Below.refl _ _) (Nat.le_refl _) (by simp) ?_; (case hd => rfl); (case hg => rfl); (case hr => first | (go_simp; done) | (go_simp; rfl)); (case hp => exact (Reps.one (show Kd.M (Kd.int .i64) _ _ _ a1 [.int .i64 a1] from rfl) (Reps.one (show Kd.M (Kd.int .i64) _ _ _ 0 [.int .i64 0] from rfl) (Reps.one (show Kd.M (Kd.int .i64) _ _ _ (wrap64 (4611686018427387904 - (wrap64 (Int.tmod a5 4)))) [.int .i64 (wrap64 (4611686018427387904 - (wrap64 (Int.tmod a5 4))))] from rfl) (Reps.none _ _))))); intro v473 w68 ho69 hb hg_ hnew_; clear hg_ hnew_; (first | rw [← Ny472.out] at ho69 | (simp only [Int.reduceToNat] at ho69; rw [← Ny472.out] at ho69)); have n0_ := Aside0.mk (Kd.N_elder' (by (with_reducible repeat (first | apply Kd.N_alloc | apply Kd.N_drewN | apply Kd.N_drew)); exact HO_113.out) (Kd.R_base ho69) hb); have n1_ := Aside0.mk (Kd.V_elder' (by (with_reducible repeat (first | apply Kd.V_alloc | apply Kd.V_drewN | apply Kd.V_drew)); exact HL471_0.out) (Kd.R_base ho69) hb); have n2_ := Aside0.mk (Kd.R_lower (Kd.R_newM (M := fun k_ => (w.heap.size ≤ k_)) ho69 (below_size (by repeat (first | (with_reducible first | exact HB.out | apply below_alloc | apply pw_below_drewN | apply below_drew1) | exact HB.out))) (fun k_ h_ => h_)) (below_size (by repeat (first | (with_reducible first | exact HB.out | apply below_alloc | apply pw_below_drewN | apply below_drew1) | exact HB.out)))); have n3_ := Aside0.mk (Kd.C_below (by repeat (first | (with_reducible exact HR471_0.out) | (with_reducible refine Kd.C_alloc ?_ _) | (with_reducible refine Kd.C_drewN ?_ _) | (with_reducible refine Kd.C_drew ?_) | exact HR471_0.out)) hb); have n4_ := Aside0.mk (below_step (by repeat (first | (with_reducible first | exact HB.out | apply below_alloc | apply pw_below_drewN | apply below_drew1) | exact HB.out)) hb); clear HO_113; clear HL471_0; clear HR471_0; clear HB; have HO_113 := n0_; have HL471_0 := n1_; have HO474 := n2_; have HR471_0 := n3_; have HB := n4_; clear n0_ n1_ n2_ n3_ n4_; clear hb ho69; obtain ⟨Ao70, co70, eo70⟩ := Kd.R_slice HO474.out; subst eo70))
                go_loopg [126] k4 (fun kq v126 w' => ∃ (x126_5 : Int), v126 = .int .i64 x126_5 ∧ Aside0 (repriselaw23_EventReads.l2 kq a1 a5 (rd_L2 y468 x115_4) y468 (y468.length : Int) x115_4 y472 (y472.length : Int) x126_5 = some r) ∧ Aside0 (kq ≤ k4) ∧ Aside0 (Kd.V (Kd.int .u8) 5 w' w.heap.size (fun k_ => (P0_ k_ ∨ w.heap.size ≤ k_) ∧ some k_ ≠ ((.slice (some ad471) y468.length co64) : Value).ownBlock ∧ some k_ ≠ ((.slice Ao70 y472.length co70) : Value).ownBlock) (.slice A471_0 (rd_L2 y468 x115_4).length c471_0) (rd_L2 y468 x115_4)) ∧ Aside0 (Kd.N (Kd.slice 5 (Kd.int .u8)) 22 w' w.heap.size (fun k_ => (P0_ k_ ∨ w.heap.size ≤ k_) ∧ some k_ ≠ ((.slice Ao70 y472.length co70) : Value).ownBlock) (.slice (some ad471) y468.length co64) y468) ∧ Aside0 (Kd.R (Kd.int .i64) 2 w' w.heap.size (fun k_ => (w.heap.size ≤ k_)) (.slice Ao70 y472.length co70) y472) ∧ Aside0 (Below w.heap.size w w'))
                case atStart => exact ⟨(0), (by first | rfl | (simp; done) | (simp [*]; done)), H', ⟨Nat.le_refl _⟩, ⟨by (try simp only [hl0_27]); (try simp only [hl16_27]); (with_reducible repeat (first | apply Kd.V_alloc | apply Kd.V_drewN | apply Kd.V_drew)); exact Kd.V_mono HL471_0.out (fun _ hk => ⟨hk.1.1, ⟨hk.1.2, hk.2⟩⟩)⟩, ⟨by (try simp only [hl0_27]); (try simp only [hl16_27]); (with_reducible repeat (first | apply Kd.N_alloc | apply Kd.N_drewN | apply Kd.N_drew)); exact HO_113.out⟩, ⟨by (try simp only [hl0_27]); (try simp only [hl16_27]); (with_reducible repeat (first | apply Kd.R_alloc | apply Kd.R_drewN | apply Kd.R_drew)); exact Kd.R_mono HO474.out (fun _ hk => hk.1)⟩, ⟨by repeat (first | (with_reducible first | exact HB.out | apply below_alloc | apply pw_below_drewN | apply below_drew1) | exact HB.out)⟩⟩
                case round =>
                 clear H'
                 try clear c1
                 try clear c2
                 try clear p2
                 try clear c3
                 try clear p3
                 try clear q3
                 try clear hx3
                 try clear c4
                 try clear p4
                 try clear q4
                 try clear hx4
                 try clear qi4
                 try clear c6
                 try clear p6
                 try clear c9
                 try clear c11
                 try clear c12
                 try clear c12b0
                 try clear c12b1
                 try clear c13
                 try clear c13b0
                 try clear c13b1
                 try clear c14
                 try clear c18
                 try clear c18b0
                 try clear c19
                 try clear c19b0
                 try clear c20
                 try clear c20b0
                 try clear c26
                 try clear c27
                 try clear c32
                 try clear c32b0
                 try clear c32b1
                 try clear c33
                 try clear c33b0
                 try clear c33b1
                 try clear c33b2
                 try clear c35
                 try clear c35b0
                 try clear c36
                 try clear c36b0
                 try clear p37
                 try clear q37
                 try clear hx37
                 try clear hf37
                 try clear c41
                 try clear c41b0
                 try clear c41b1
                 try clear c42
                 try clear c42b0
                 try clear c42b1
                 try clear c42b2
                 try clear c44
                 try clear c44b0
                 try clear c44b1
                 try clear p44
                 try clear q44
                 try clear hx44
                 try clear c45
                 try clear c45b0
                 try clear c45b1
                 try clear p45
                 try clear q45
                 try clear hx45
                 try clear c47
                 try clear p47
                 try clear q47
                 try clear hx47
                 try clear c48
                 try clear c48b0
                 try clear c48b1
                 try clear p49
                 try clear q49
                 try clear hx49
                 try clear qi49
                 try clear hf49
                 try clear p64
                 try clear c65
                 try clear c65b0
                 try clear c66
                 try clear c66b0
                 try clear c67
                 try clear c67b0
                 try clear hx37_0
                 try clear hx442_0
                 try clear hx442_1
                 try clear hx442_2
                 try clear hx442_3
                 try clear hx442_4
                 try clear hx453_0
                 try clear hx471_0
                 try clear hx49_0
                 try clear p2
                 try clear p3
                 try clear p37
                 try clear p4
                 try clear p44
                 try clear p442
                 try clear p45
                 try clear p453
                 try clear p471
                 try clear p49
                 try clear p6
                 try clear p64
                 try clear q3
                 try clear q37
                 try clear q4
                 try clear q44
                 try clear q442
                 try clear q45
                 try clear q453
                 try clear q47
                 try clear q471
                 try clear q49
                 obtain ⟨x126_5, rfl, HA, HK5, HO_20, HO_113, HO_124, HB⟩ := hrel; cases gk with
                 | zero => exact absurd HA.out (by simp [repriselaw23_EventReads.l2])
                 | succ k5 =>
                  have H := HA.out; clear HA; simp only [repriselaw23_EventReads.l2] at H
                  by_cases c71 : x126_5 < (y472.length : Int)
                  ·rw [if_pos c71] at H
                   have c71b0 : decide (x126_5 < (y472.length : Int)) = true := decide_eq_true c71
                   clear c71; by_cases c72 : 0 ≤ x126_5
                   ·rw [if_pos c72] at H
                    have c72b0 : decide (0 ≤ x126_5) = true := decide_eq_true c72
                    clear c72; by_cases c73 : x126_5 < (y472.length : Int)
                    ·rw [if_pos c73] at H
                     have c73b0 : decide (x126_5 < (y472.length : Int)) = true := decide_eq_true c73
                     clear c73; replace H := Option.bind_eq_some_iff.mp H; obtain ⟨⟨t476, t477, t478, t481, t482, t483, t484⟩, A740, H⟩ := H; replace H : ((repriseref23_Read.f k5 (rd y472 x126_5) (rd_L2 y468 x115_4)).bind fun bt486 => (if t483 = bt486.2.2.2.2.2.1 then (if t484 = bt486.2.2.2.2.2.2 then ((repriseref23_Same.f t476 t477 t478 t481 t482 bt486.1 bt486.2.1 bt486.2.2.1 bt486.2.2.2.1 bt486.2.2.2.2.1).bind fun t496 => (if t496 = true then (repriselaw23_EventReads.l2 k5 a1 a5 (rd_L2 y468 x115_4) y468 (y468.length : Int) x115_4 y472 (y472.length : Int) (wrap64 (x126_5 + 1))) else (none))) else (none)) else (none))) = some r := H
                     have A74 := Aside0.mk A740; clear A740; replace H := Option.bind_eq_some_iff.mp H; obtain ⟨⟨t486, t487, t488, t491, t492, t493, t494⟩, A750, H⟩ := H; replace H : (if t483 = t493 then (if t484 = t494 then ((repriseref23_Same.f t476 t477 t478 t481 t482 t486 t487 t488 t491 t492).bind fun t496 => (if t496 = true then (repriselaw23_EventReads.l2 k5 a1 a5 (rd_L2 y468 x115_4) y468 (y468.length : Int) x115_4 y472 (y472.length : Int) (wrap64 (x126_5 + 1))) else (none))) else (none)) else (none)) = some r := H
                     have A75 := Aside0.mk A750; clear A750; by_cases c76 : t483 = t493
                     ·rw [if_pos c76] at H
                      have c76b0 : (t483 == t493) = true := beq_iff_eq.mpr c76
                      have c76b1 : (t483 != t493) = false := bne_eq_false_iff_eq.mpr c76
                      clear c76; by_cases c77 : t484 = t494
                      ·rw [if_pos c77] at H
                       have c77b0 : (t484 == t494) = true := beq_iff_eq.mpr c77
                       have c77b1 : (t484 != t494) = false := bne_eq_false_iff_eq.mpr c77
                       clear c77; replace H := Option.bind_eq_some_iff.mp H; obtain ⟨t496, A780, H⟩ := H; replace H : (if t496 = true then (repriselaw23_EventReads.l2 k5 a1 a5 (rd_L2 y468 x115_4) y468 (y468.length : Int) x115_4 y472 (y472.length : Int) (wrap64 (x126_5 + 1))) else (none)) = some r := H
                       have A78 := Aside0.mk A780; clear A780; by_cases c79 : t496 = true
                       ·subst c79; have H1 : (repriselaw23_EventReads.l2 k5 a1 a5 (rd_L2 y468 x115_4) y468 (y468.length : Int) x115_4 y472 (y472.length : Int) (wrap64 (x126_5 + 1))) = some r := by rw [if_pos rfl] at H; exact H
                        clear H; have H := H1; clear H1; have H' := Aside0.mk H; clear H; have p475 : 0 ≤ (x126_5 : Int) := of_decide_eq_true (by first | (with_reducible assumption) | assumption)
                        have q475 : x126_5 < (y472.length : Int) := of_decide_eq_true (by first | (with_reducible assumption) | assumption)
                        obtain ⟨ad475, e475, hx475_0⟩ := Kd.at_int (Kd.R_reads' HO_124.out).2.2 x126_5 p475 q475
                        cases e475; replace p475 := eq_true p475; replace q475 := eq_true q475; go_wp2_with (first | ((with_reducible refine gate_callee (f := 14) rfl ?_); refine goesL_ (some 133) rfl rfl Try.func14 (by kernel_rfl) rfl #[.int .i64 (rd y472 x126_5), .slice A471_0 (rd_L2 y468 x115_4).length c471_0] rfl (by (try simp only [List.map_toArray, List.map_cons, List.map_nil]); first | done | rfl | (simp only [List.length_drop, List.length_take]; rfl)) ?_; (with_reducible refine (event_Read.calls k5 (rd y472 x126_5) _ _ (rd_L2 y468 x115_4) t476 t477 t478 t481 t482 t483 t484 _ ?side1 ?side2 A74.out).mono ?_); (case side1 => repeat (first | exact (Kd.V_reads' HO_20.out).2.2 | (with_reducible refine Kd.C_alloc ?_ _) | (with_reducible refine Kd.C_drewN ?_ _) | (with_reducible refine Kd.C_drew ?_))); (case side2 => exact (Kd.V_reads' HO_20.out).2.1); rintro e w80 ⟨v479, rfl, ho0, hb⟩; refine ⟨_, rfl, ?_⟩; have n0_ := Aside0.mk (Kd.V_elder' (by (with_reducible repeat (first | apply Kd.V_alloc | apply Kd.V_drewN | apply Kd.V_drew)); exact HO_20.out) (Kd.R_base ho0) hb); have n1_ := Aside0.mk (Kd.N_elder' (by (with_reducible repeat (first | apply Kd.N_alloc | apply Kd.N_drewN | apply Kd.N_drew)); exact HO_113.out) (Kd.R_base ho0) hb); have n2_ := Aside0.mk (Kd.R_below (by (with_reducible repeat (first | apply Kd.R_alloc | apply Kd.R_drewN | apply Kd.R_drew)); exact HO_124.out) hb); have n3_ := Aside0.mk (Kd.R_lower (Kd.R_newM (M := fun k_ => (w.heap.size ≤ k_)) ho0 (below_size (by repeat (first | (with_reducible first | exact HB.out | apply below_alloc | apply pw_below_drewN | apply below_drew1) | exact HB.out))) (fun k_ h_ => h_)) (below_size (by repeat (first | (with_reducible first | exact HB.out | apply below_alloc | apply pw_below_drewN | apply below_drew1) | exact HB.out)))); have n4_ := Aside0.mk (below_step (by repeat (first | (with_reducible first | exact HB.out | apply below_alloc | apply pw_below_drewN | apply below_drew1) | exact HB.out)) hb); clear HO_20; clear HO_113; clear HO_124; clear HB; have HO_20 := n0_; have HO_113 := n1_; have HO_124 := n2_; have HO480 := n3_; have HB := n4_; clear n0_ n1_ n2_ n3_ n4_; (try clear hb); (try clear hb2); (try clear hk); (try clear hi); (try clear ho0)) | ((with_reducible refine gate_dst (N := 23) rfl ?_); (try (refine gate_guard (by rfl) ?_; dsimp only)); refine box_event ?hg (N := 23) ?hd (cs := #[.int .i64 0, .int .i64 0, .slice none 0 0, .int .i64 0, .int .i64 0]) (t := 30) ?hr ?_; (case hd => rfl); (case hg => rfl); (case hr => first | (go_simp; done) | (go_simp; rfl)); intro gb485 hg w81 hbox hb; have n0_ := Aside0.mk (Kd.V_below (Kd.V_elderB (by (with_reducible repeat (first | apply Kd.V_alloc | apply Kd.V_drewN | apply Kd.V_drew)); exact HO_20.out) gb485 (Nat.le_of_eq hg.symm)) hb); have n1_ := Aside0.mk (Kd.N_below (Kd.N_elderB (by (with_reducible repeat (first | apply Kd.N_alloc | apply Kd.N_drewN | apply Kd.N_drew)); exact HO_113.out) gb485 (Nat.le_of_eq hg.symm)) hb); have n2_ := Aside0.mk (Kd.R_below (by (with_reducible repeat (first | apply Kd.R_alloc | apply Kd.R_drewN | apply Kd.R_drew)); exact HO_124.out) hb); have n3_ := Aside0.mk (Kd.R_below (by (with_reducible repeat (first | apply Kd.R_alloc | apply Kd.R_drewN | apply Kd.R_drew)); exact HO480.out) hb); have n4_ := Aside0.mk (below_step (by repeat (first | (with_reducible first | exact HB.out | apply below_alloc | apply pw_below_drewN | apply below_drew1) | exact HB.out)) hb); have n5_ := Aside0.mk (hbox); have n6_ := Aside0.mk ((by rw [hg]; exact (below_size (by repeat (first | (with_reducible first | exact HB.out | apply below_alloc | apply pw_below_drewN | apply below_drew1) | exact HB.out))) : w.heap.size ≤ gb485)); have n7_ := Aside0.mk ((by rw [hg]; exact (below_size (by repeat (first | (with_reducible first | exact HB.out | apply below_alloc | apply pw_below_drewN | apply below_drew1) | exact HB.out))) : w.heap.size ≤ gb485)); clear HO_20; clear HO_113; clear HO_124; clear HO480; clear HB; have HO_20 := n0_; have HO_113 := n1_; have HO_124 := n2_; have HO480 := n3_; have HB := n4_; have BK485 := n5_; have GW485 := n6_; have GE485 := n7_; clear n0_ n1_ n2_ n3_ n4_ n5_ n6_ n7_; clear hb hbox hg; have hcz82_0 : w81.cell? ⟨gb485, 0, none⟩ = some (.int .i64 0) := (blk_cell BK485.out 0).trans rfl; have hcz82_1 : w81.cell? ⟨gb485, 1, none⟩ = some (.int .i64 0) := (blk_cell BK485.out 1).trans rfl; have hcz82_2 : w81.cell? ⟨gb485, 2, none⟩ = some (.slice none 0 0) := (blk_cell BK485.out 2).trans rfl; have hcz82_3 : w81.cell? ⟨gb485, 3, none⟩ = some (.int .i64 0) := (blk_cell BK485.out 3).trans rfl; have hcz82_4 : w81.cell? ⟨gb485, 4, none⟩ = some (.int .i64 0) := (blk_cell BK485.out 4).trans rfl; have hfz82_0 := blk_frozen BK485.out 0; have hfz82_1 := blk_frozen BK485.out 1; have hfz82_2 := blk_frozen BK485.out 2; have hfz82_3 := blk_frozen BK485.out 3; have hfz82_4 := blk_frozen BK485.out 4; obtain ⟨Ao83, co83, eo83⟩ := Kd.R_slice HO480.out; subst eo83) | ((with_reducible refine gate_store (t := 30) (p := 23) rfl ?_); refine store_event (t := 30) (p := 23) (v := ?vo_w84) (w1 := (((((w81.setCell ⟨gb485, 0, none⟩ (.int .i64 t476)).setCell ⟨gb485, 1, none⟩ (.int .i64 t477)).setCell ⟨gb485, 2, none⟩ (.slice Ao83 t478.length co83)).setCell ⟨gb485, 3, none⟩ (.int .i64 t481)).setCell ⟨gb485, 4, none⟩ (.int .i64 t482))) ?hg ?ho ?hn ?hr ?_; (case ho => rfl); (case hg => rfl); (case hn => rfl); (case hr => first | (go_simp; done) | (go_simp; rfl)); intro w84 hw; have n0_ : Aside0 (Kd.V (Kd.int .u8) 5 w84 w.heap.size (fun k_ => (P0_ k_ ∨ w.heap.size ≤ k_) ∧ some k_ ≠ (.slice (some ad471) y468.length co64 : Value).ownBlock ∧ some k_ ≠ (.slice (some ad475) y472.length co70 : Value).ownBlock ∧ some k_ ≠ (.slice Ao83 t478.length co83 : Value).ownBlock ∧ k_ ≠ gb485) (.slice A471_0 (rd_L2 y468 x115_4).length c471_0) (rd_L2 y468 x115_4)) := ⟨(by rw [hw]; exact (by (with_reducible repeat (first | apply Kd.V_alloc | apply Kd.V_drewN | apply Kd.V_drew)); exact Kd.V_mono (Kd.V_far (p := ⟨gb485, 4, none⟩) (Kd.V_far (p := ⟨gb485, 3, none⟩) (Kd.V_far (p := ⟨gb485, 2, none⟩) (Kd.V_far (p := ⟨gb485, 1, none⟩) (Kd.V_far (p := ⟨gb485, 0, none⟩) (Kd.V_mono HO_20.out (fun k_ hk => (⟨hk, hk.2⟩ : _ ∧ k_ ≠ gb485))) (fun _ hk => hk.2) (.int .i64 t476)) (fun _ hk => hk.2) (.int .i64 t477)) (fun _ hk => hk.2) (.slice Ao83 t478.length co83)) (fun _ hk => hk.2) (.int .i64 t481)) (fun _ hk => hk.2) (.int .i64 t482)) (fun _ hk => ⟨hk.1.1.1.1, ⟨hk.1.1.1.2.1, ⟨hk.1.1.1.2.2, ⟨hk.1.1.2, hk.1.2⟩⟩⟩⟩)))⟩; have n1_ : Aside0 (Kd.N (Kd.slice 5 (Kd.int .u8)) 22 w84 w.heap.size (fun k_ => (P0_ k_ ∨ w.heap.size ≤ k_) ∧ some k_ ≠ (.slice (some ad475) y472.length co70 : Value).ownBlock ∧ some k_ ≠ (.slice Ao83 t478.length co83 : Value).ownBlock ∧ k_ ≠ gb485) (.slice (some ad471) y468.length co64) y468) := ⟨(by rw [hw]; exact (by (with_reducible repeat (first | apply Kd.N_alloc | apply Kd.N_drewN | apply Kd.N_drew)); exact Kd.N_mono (Kd.N_far (p := ⟨gb485, 4, none⟩) (Kd.N_far (p := ⟨gb485, 3, none⟩) (Kd.N_far (p := ⟨gb485, 2, none⟩) (Kd.N_far (p := ⟨gb485, 1, none⟩) (Kd.N_far (p := ⟨gb485, 0, none⟩) (Kd.N_mono HO_113.out (fun k_ hk => (⟨hk, hk.2⟩ : _ ∧ k_ ≠ gb485))) (fun _ hk => hk.2) (.int .i64 t476)) (fun _ hk => hk.2) (.int .i64 t477)) (fun _ hk => hk.2) (.slice Ao83 t478.length co83)) (fun _ hk => hk.2) (.int .i64 t481)) (fun _ hk => hk.2) (.int .i64 t482)) (fun _ hk => ⟨hk.1.1.1.1, ⟨hk.1.1.1.2, ⟨hk.1.1.2, hk.1.2⟩⟩⟩)))⟩; have n2_ : Aside0 (Kd.R (Kd.int .i64) 2 w84 w.heap.size (fun k_ => (w.heap.size ≤ k_)) (.slice (some ad475) y472.length co70) y472) := ⟨(by rw [hw]; exact (by (with_reducible repeat (first | apply Kd.R_alloc | apply Kd.R_drewN | apply Kd.R_drew)); exact Kd.R_mono (Kd.R_far (p := ⟨gb485, 4, none⟩) (Kd.R_far (p := ⟨gb485, 3, none⟩) (Kd.R_far (p := ⟨gb485, 2, none⟩) (Kd.R_far (p := ⟨gb485, 1, none⟩) (Kd.R_far (p := ⟨gb485, 0, none⟩) (Kd.R_types HO_124.out BK485.out (by decide)) (fun _ hk => hk.2) (.int .i64 t476)) (fun _ hk => hk.2) (.int .i64 t477)) (fun _ hk => hk.2) (.slice Ao83 t478.length co83)) (fun _ hk => hk.2) (.int .i64 t481)) (fun _ hk => hk.2) (.int .i64 t482)) (fun _ hk => hk.1)))⟩; have n3_ : Aside0 (Kd.R (Kd.int .u8) 5 w84 w.heap.size (fun k_ => (w.heap.size ≤ k_)) (.slice Ao83 t478.length co83) t478) := ⟨(by rw [hw]; exact (by (with_reducible repeat (first | apply Kd.R_alloc | apply Kd.R_drewN | apply Kd.R_drew)); exact Kd.R_mono (Kd.R_far (p := ⟨gb485, 4, none⟩) (Kd.R_far (p := ⟨gb485, 3, none⟩) (Kd.R_far (p := ⟨gb485, 2, none⟩) (Kd.R_far (p := ⟨gb485, 1, none⟩) (Kd.R_far (p := ⟨gb485, 0, none⟩) (Kd.R_types HO480.out BK485.out (by decide)) (fun _ hk => hk.2) (.int .i64 t476)) (fun _ hk => hk.2) (.int .i64 t477)) (fun _ hk => hk.2) (.slice Ao83 t478.length co83)) (fun _ hk => hk.2) (.int .i64 t481)) (fun _ hk => hk.2) (.int .i64 t482)) (fun _ hk => hk.1.1)))⟩; have n4_ : Aside0 (w84.heap[gb485]? = some (.cells #[.int .i64 t476, .int .i64 t477, .slice Ao83 t478.length co83, .int .i64 t481, .int .i64 t482] 30 (0, 0))) := ⟨(by rw [hw]; exact (by (with_reducible repeat (first | refine blk_drewN ?_ _ | refine blk_drew ?_ | refine blk_alloc ?_ _)); refine blk_put (cs := #[.int .i64 t476, .int .i64 t477, .slice Ao83 t478.length co83, .int .i64 t481, .int .i64 0]) ?_ 4 _ rfl; (with_reducible repeat (first | refine blk_drewN ?_ _ | refine blk_drew ?_ | refine blk_alloc ?_ _)); refine blk_put (cs := #[.int .i64 t476, .int .i64 t477, .slice Ao83 t478.length co83, .int .i64 0, .int .i64 0]) ?_ 3 _ rfl; (with_reducible repeat (first | refine blk_drewN ?_ _ | refine blk_drew ?_ | refine blk_alloc ?_ _)); refine blk_put (cs := #[.int .i64 t476, .int .i64 t477, .slice none 0 0, .int .i64 0, .int .i64 0]) ?_ 2 _ rfl; (with_reducible repeat (first | refine blk_drewN ?_ _ | refine blk_drew ?_ | refine blk_alloc ?_ _)); refine blk_put (cs := #[.int .i64 t476, .int .i64 0, .slice none 0 0, .int .i64 0, .int .i64 0]) ?_ 1 _ rfl; (with_reducible repeat (first | refine blk_drewN ?_ _ | refine blk_drew ?_ | refine blk_alloc ?_ _)); refine blk_put (cs := #[.int .i64 0, .int .i64 0, .slice none 0 0, .int .i64 0, .int .i64 0]) ?_ 0 _ rfl; (with_reducible repeat (first | refine blk_drewN ?_ _ | refine blk_drew ?_ | refine blk_alloc ?_ _)); exact BK485.out))⟩; have n5_ : Aside0 (Below w.heap.size w w84) := ⟨(by rw [hw]; exact (by repeat (first | (with_reducible first | exact HB.out | apply below_alloc | apply pw_below_drewN | apply below_drew1 | refine below_set ?_ GE485.out) | exact HB.out)))⟩; clear hw; clear HO_20; clear HO_113; clear HO_124; clear HO480; clear BK485; clear HB; have HO_20 := n0_; have HO_113 := n1_; have HO_124 := n2_; have HO480 := n3_; have BK485 := n4_; have HB := n5_; clear n0_ n1_ n2_ n3_ n4_ n5_) | ((with_reducible refine gate_callee (f := 15) rfl ?_); refine goesL_ (some 140) rfl rfl Try.func15 (by kernel_rfl) rfl #[.int .i64 (rd y472 x126_5), .slice A471_0 (rd_L2 y468 x115_4).length c471_0] rfl (by (try simp only [List.map_toArray, List.map_cons, List.map_nil]); first | done | rfl | (simp only [List.length_drop, List.length_take]; rfl)) ?_; (with_reducible refine (repriseref23_Read.calls k5 (rd y472 x126_5) (fun k_ => ((P0_ k_ ∨ w.heap.size ≤ k_) ∧ (some k_ ≠ (.slice (some ad471) y468.length co64 : Value).ownBlock ∧ (some k_ ≠ (.slice (some ad475) y472.length co70 : Value).ownBlock ∧ (some k_ ≠ (.slice Ao83 t478.length co83 : Value).ownBlock ∧ k_ ≠ gb485))))) _ _ (rd_L2 y468 x115_4) t486 t487 t488 t491 t492 t493 t494 _ ?side1 A75.out).mono ?_); (case side1 => exact HO_20.out); rintro e w85 ⟨v489, rfl, ho0, hb⟩; refine ⟨_, rfl, ?_⟩; have n0_ := Aside0.mk (Kd.V_below (by (with_reducible repeat (first | apply Kd.V_alloc | apply Kd.V_drewN | apply Kd.V_drew)); exact HO_20.out) hb); have n1_ := Aside0.mk (Kd.N_below (by (with_reducible repeat (first | apply Kd.N_alloc | apply Kd.N_drewN | apply Kd.N_drew)); exact HO_113.out) hb); have n2_ := Aside0.mk (Kd.R_below (by (with_reducible repeat (first | apply Kd.R_alloc | apply Kd.R_drewN | apply Kd.R_drew)); exact HO_124.out) hb); have n3_ := Aside0.mk (Kd.R_below (by (with_reducible repeat (first | apply Kd.R_alloc | apply Kd.R_drewN | apply Kd.R_drew)); exact HO480.out) hb); have n4_ := Aside0.mk (Kd.V_lower (Kd.V_mono (ok' := fun k_ => (P0_ k_ ∨ w.heap.size ≤ k_) ∧ some k_ ≠ (.slice (some ad471) y468.length co64 : Value).ownBlock ∧ some k_ ≠ (.slice (some ad475) y472.length co70 : Value).ownBlock ∧ some k_ ≠ (.slice Ao83 t478.length co83 : Value).ownBlock ∧ k_ ≠ gb485) ho0 (fun k_ hk_ => ⟨Or.elim hk_ (fun hs_ => hs_.1) (fun hn_ => (.inr (Nat.le_trans (below_size (by repeat (first | (with_reducible first | exact HB.out | apply below_alloc | apply pw_below_drewN | apply below_drew1 | refine below_set ?_ GE485.out) | exact HB.out))) hn_))), Or.elim hk_ (fun hs_ => hs_.2.1) (fun hn_ => (Kd.fresh' (Kd.N_lt (by (with_reducible repeat (first | apply Kd.N_alloc | apply Kd.N_drewN | apply Kd.N_drew)); exact HO_113.out)) k_ hn_)), Or.elim hk_ (fun hs_ => hs_.2.2.1) (fun hn_ => (Kd.fresh' (Kd.R_lt (by (with_reducible repeat (first | apply Kd.R_alloc | apply Kd.R_drewN | apply Kd.R_drew)); exact HO_124.out)) k_ hn_)), Or.elim hk_ (fun hs_ => hs_.2.2.2.1) (fun hn_ => (Kd.fresh' (Kd.R_lt (by (with_reducible repeat (first | apply Kd.R_alloc | apply Kd.R_drewN | apply Kd.R_drew)); exact HO480.out)) k_ hn_)), Or.elim hk_ (fun hs_ => hs_.2.2.2.2) (fun hn_ => (Kd.freshB (g := gb485) (o := .cells #[.int .i64 t476, .int .i64 t477, .slice Ao83 t478.length co83, .int .i64 t481, .int .i64 t482] 30 (0, 0)) (by (with_reducible repeat (first | refine blk_drewN ?_ _ | refine blk_drew ?_ | refine blk_alloc ?_ _)); exact BK485.out) k_ hn_))⟩)) (below_size (by repeat (first | (with_reducible first | exact HB.out | apply below_alloc | apply pw_below_drewN | apply below_drew1 | refine below_set ?_ GE485.out) | exact HB.out)))); have n5_ := Aside0.mk (blk_below (g := gb485) (o := .cells #[.int .i64 t476, .int .i64 t477, .slice Ao83 t478.length co83, .int .i64 t481, .int .i64 t482] 30 (0, 0)) (by (with_reducible repeat (first | refine blk_drewN ?_ _ | refine blk_drew ?_ | refine blk_alloc ?_ _)); exact BK485.out) hb); have n6_ := Aside0.mk (below_step (by repeat (first | (with_reducible first | exact HB.out | apply below_alloc | apply pw_below_drewN | apply below_drew1 | refine below_set ?_ GE485.out) | exact HB.out)) hb); clear HO_20; clear HO_113; clear HO_124; clear HO480; clear BK485; clear HB; have HO_20 := n0_; have HO_113 := n1_; have HO_124 := n2_; have HO480 := n3_; have HO490 := n4_; have BK485 := n5_; have HB := n6_; clear n0_ n1_ n2_ n3_ n4_ n5_ n6_; (try clear hb); (try clear hb2); (try clear hk); (try clear hi); (try clear ho0)) | ((with_reducible refine gate_dst (N := 26) rfl ?_); (try (refine gate_guard (by rfl) ?_; dsimp only)); refine box_event ?hg (N := 26) ?hd (cs := #[.int .i64 0, .int .i64 0, .slice none 0 0, .int .i64 0, .int .i64 0]) (t := 30) ?hr ?_; (case hd => rfl); (case hg => rfl); (case hr => first | (go_simp; done) | (go_simp; rfl)); intro gb495 hg w86 hbox hb; have n0_ := Aside0.mk (Kd.V_below (Kd.V_elderB (by (with_reducible repeat (first | apply Kd.V_alloc | apply Kd.V_drewN | apply Kd.V_drew)); exact HO_20.out) gb495 (Nat.le_of_eq hg.symm)) hb); have n1_ := Aside0.mk (Kd.N_below (Kd.N_elderB (by (with_reducible repeat (first | apply Kd.N_alloc | apply Kd.N_drewN | apply Kd.N_drew)); exact HO_113.out) gb495 (Nat.le_of_eq hg.symm)) hb); have n2_ := Aside0.mk (Kd.R_below (by (with_reducible repeat (first | apply Kd.R_alloc | apply Kd.R_drewN | apply Kd.R_drew)); exact HO_124.out) hb); have n3_ := Aside0.mk (Kd.R_below (by (with_reducible repeat (first | apply Kd.R_alloc | apply Kd.R_drewN | apply Kd.R_drew)); exact HO480.out) hb); have n4_ := Aside0.mk (Kd.V_below (Kd.V_elderB (by (with_reducible repeat (first | apply Kd.V_alloc | apply Kd.V_drewN | apply Kd.V_drew)); exact HO490.out) gb495 (Nat.le_of_eq hg.symm)) hb); have n5_ := Aside0.mk (blk_below (g := gb485) (o := .cells #[.int .i64 t476, .int .i64 t477, .slice Ao83 t478.length co83, .int .i64 t481, .int .i64 t482] 30 (0, 0)) (by (with_reducible repeat (first | refine blk_drewN ?_ _ | refine blk_drew ?_ | refine blk_alloc ?_ _)); exact BK485.out) hb); have n6_ := Aside0.mk (below_step (by repeat (first | (with_reducible first | exact HB.out | apply below_alloc | apply pw_below_drewN | apply below_drew1 | refine below_set ?_ GE485.out) | exact HB.out)) hb); have n7_ := Aside0.mk (hbox); have n8_ := Aside0.mk ((by rw [hg]; exact (below_size (by repeat (first | (with_reducible first | exact HB.out | apply below_alloc | apply pw_below_drewN | apply below_drew1 | refine below_set ?_ GE485.out) | exact HB.out))) : w.heap.size ≤ gb495)); have n9_ := Aside0.mk ((by rw [hg]; exact (below_size (by repeat (first | (with_reducible first | exact HB.out | apply below_alloc | apply pw_below_drewN | apply below_drew1 | refine below_set ?_ GE485.out) | exact HB.out))) : w.heap.size ≤ gb495)); have n10_ := Aside0.mk ((by rw [hg]; exact Nat.ne_of_lt (blk_lt (g := gb485) (o := .cells #[.int .i64 t476, .int .i64 t477, .slice Ao83 t478.length co83, .int .i64 t481, .int .i64 t482] 30 (0, 0)) (by (with_reducible repeat (first | refine blk_drewN ?_ _ | refine blk_drew ?_ | refine blk_alloc ?_ _)); exact BK485.out)) : gb485 ≠ gb495)); have n11_ := Aside0.mk ((by rw [hg]; exact Nat.ne_of_gt (blk_lt (g := gb485) (o := .cells #[.int .i64 t476, .int .i64 t477, .slice Ao83 t478.length co83, .int .i64 t481, .int .i64 t482] 30 (0, 0)) (by (with_reducible repeat (first | refine blk_drewN ?_ _ | refine blk_drew ?_ | refine blk_alloc ?_ _)); exact BK485.out)) : gb495 ≠ gb485)); clear HO_20; clear HO_113; clear HO_124; clear HO480; clear HO490; clear BK485; clear HB; have HO_20 := n0_; have HO_113 := n1_; have HO_124 := n2_; have HO480 := n3_; have HO490 := n4_; have BK485 := n5_; have HB := n6_; have BK495 := n7_; have GW495 := n8_; have GE495 := n9_; have NB485_495 := n10_; have NB495_485 := n11_; clear n0_ n1_ n2_ n3_ n4_ n5_ n6_ n7_ n8_ n9_ n10_ n11_; clear hb hbox hg; have hnb87 := NB495_485.out; have hnc87 := NB485_495.out; have hcz88_0 : w86.cell? ⟨gb495, 0, none⟩ = some (.int .i64 0) := (blk_cell BK495.out 0).trans rfl; have hcz88_1 : w86.cell? ⟨gb495, 1, none⟩ = some (.int .i64 0) := (blk_cell BK495.out 1).trans rfl; have hcz88_2 : w86.cell? ⟨gb495, 2, none⟩ = some (.slice none 0 0) := (blk_cell BK495.out 2).trans rfl; have hcz88_3 : w86.cell? ⟨gb495, 3, none⟩ = some (.int .i64 0) := (blk_cell BK495.out 3).trans rfl; have hcz88_4 : w86.cell? ⟨gb495, 4, none⟩ = some (.int .i64 0) := (blk_cell BK495.out 4).trans rfl; have hfz88_0 := blk_frozen BK495.out 0; have hfz88_1 := blk_frozen BK495.out 1; have hfz88_2 := blk_frozen BK495.out 2; have hfz88_3 := blk_frozen BK495.out 3; have hfz88_4 := blk_frozen BK495.out 4; obtain ⟨Ao89, co89, eo89⟩ := Kd.V_slice HO490.out; subst eo89; have hcz90_0 : w86.cell? ⟨gb485, 0, none⟩ = some (.int .i64 t476) := (blk_cell BK485.out 0).trans rfl; have hcz90_1 : w86.cell? ⟨gb485, 1, none⟩ = some (.int .i64 t477) := (blk_cell BK485.out 1).trans rfl; have hcz90_2 : w86.cell? ⟨gb485, 2, none⟩ = some (.slice Ao83 t478.length co83) := (blk_cell BK485.out 2).trans rfl; have hcz90_3 : w86.cell? ⟨gb485, 3, none⟩ = some (.int .i64 t481) := (blk_cell BK485.out 3).trans rfl; have hcz90_4 : w86.cell? ⟨gb485, 4, none⟩ = some (.int .i64 t482) := (blk_cell BK485.out 4).trans rfl; have hfz90_0 := blk_frozen BK485.out 0; have hfz90_1 := blk_frozen BK485.out 1; have hfz90_2 := blk_frozen BK485.out 2; have hfz90_3 := blk_frozen BK485.out 3; have hfz90_4 := blk_frozen BK485.out 4) | (go_at_call 16; (with_reducible refine (repriseref23_Same.calls t476 t477 _ _ t478 t481 t482 t486 t487 _ _ t488 t491 t492 true _ ?side1 ?side2 ?side3 ?side4 A78.out).mono ?_); (case side1 => refine (Kd.R_reads' (e := 5) (base := w.heap.size) (ok := fun k_ => (w.heap.size ≤ k_)) (n := t478.length) (c := co83) ?_).2.2; exact (by (with_reducible repeat (first | apply Kd.R_alloc | apply Kd.R_drewN | apply Kd.R_drew)); exact (Kd.R_mono (Kd.R_far (p := ⟨gb495, 4, none⟩) (Kd.R_far (p := ⟨gb495, 3, none⟩) (Kd.R_far (p := ⟨gb495, 2, none⟩) (Kd.R_far (p := ⟨gb495, 1, none⟩) (Kd.R_far (p := ⟨gb495, 0, none⟩) (Kd.R_types HO480.out BK495.out (by decide)) (fun _ hk => hk.2) (.int .i64 t486)) (fun _ hk => hk.2) (.int .i64 t487)) (fun _ hk => hk.2) (.slice Ao89 t488.length co89)) (fun _ hk => hk.2) (.int .i64 t491)) (fun _ hk => hk.2) (.int .i64 t492)) (fun _ h_ => h_.1)))); (case side2 => exact (Kd.R_reads' HO480.out).2.1); (case side3 => refine (Kd.V_reads' (e := 5) (base := w.heap.size) (ok := fun k_ => ((((P0_ k_ ∨ w.heap.size ≤ k_)) ∧ (some k_ ≠ (.slice (some ad471) y468.length co64 : Value).ownBlock ∧ (some k_ ≠ (.slice (some ad475) y472.length co70 : Value).ownBlock ∧ (some k_ ≠ (.slice Ao83 t478.length co83 : Value).ownBlock ∧ k_ ≠ gb485)))) ∧ k_ ≠ gb495)) (n := t488.length) (c := co89) ?_).2.2; exact (by (with_reducible repeat (first | apply Kd.V_alloc | apply Kd.V_drewN | apply Kd.V_drew)); exact (Kd.V_mono (Kd.V_far (p := ⟨gb495, 4, none⟩) (Kd.V_far (p := ⟨gb495, 3, none⟩) (Kd.V_far (p := ⟨gb495, 2, none⟩) (Kd.V_far (p := ⟨gb495, 1, none⟩) (Kd.V_far (p := ⟨gb495, 0, none⟩) (Kd.V_mono HO490.out (fun k_ hk => (⟨hk, hk.2⟩ : _ ∧ k_ ≠ gb495))) (fun _ hk => hk.2) (.int .i64 t486)) (fun _ hk => hk.2) (.int .i64 t487)) (fun _ hk => hk.2) (.slice Ao89 t488.length co89)) (fun _ hk => hk.2) (.int .i64 t491)) (fun _ hk => hk.2) (.int .i64 t492)) (fun _ h_ => h_.1)))); (case side4 => exact (Kd.V_reads' HO490.out).2.1); rintro e w91 ⟨rfl, hb⟩; have n0_ := Aside0.mk (Kd.V_below (by (with_reducible repeat (first | apply Kd.V_alloc | apply Kd.V_drewN | apply Kd.V_drew)); exact (Kd.V_mono (Kd.V_far (p := ⟨gb495, 4, none⟩) (Kd.V_far (p := ⟨gb495, 3, none⟩) (Kd.V_far (p := ⟨gb495, 2, none⟩) (Kd.V_far (p := ⟨gb495, 1, none⟩) (Kd.V_far (p := ⟨gb495, 0, none⟩) (Kd.V_mono HO_20.out (fun k_ hk => (⟨hk, hk.2⟩ : _ ∧ k_ ≠ gb495))) (fun _ hk => hk.2) (.int .i64 t486)) (fun _ hk => hk.2) (.int .i64 t487)) (fun _ hk => hk.2) (.slice Ao89 t488.length co89)) (fun _ hk => hk.2) (.int .i64 t491)) (fun _ hk => hk.2) (.int .i64 t492)) (fun _ h_ => h_.1))) hb); have n1_ := Aside0.mk (Kd.N_below (by (with_reducible repeat (first | apply Kd.N_alloc | apply Kd.N_drewN | apply Kd.N_drew)); exact (Kd.N_mono (Kd.N_far (p := ⟨gb495, 4, none⟩) (Kd.N_far (p := ⟨gb495, 3, none⟩) (Kd.N_far (p := ⟨gb495, 2, none⟩) (Kd.N_far (p := ⟨gb495, 1, none⟩) (Kd.N_far (p := ⟨gb495, 0, none⟩) (Kd.N_mono HO_113.out (fun k_ hk => (⟨hk, hk.2⟩ : _ ∧ k_ ≠ gb495))) (fun _ hk => hk.2) (.int .i64 t486)) (fun _ hk => hk.2) (.int .i64 t487)) (fun _ hk => hk.2) (.slice Ao89 t488.length co89)) (fun _ hk => hk.2) (.int .i64 t491)) (fun _ hk => hk.2) (.int .i64 t492)) (fun _ h_ => h_.1))) hb); have n2_ := Aside0.mk (Kd.R_below (by (with_reducible repeat (first | apply Kd.R_alloc | apply Kd.R_drewN | apply Kd.R_drew)); exact (Kd.R_mono (Kd.R_far (p := ⟨gb495, 4, none⟩) (Kd.R_far (p := ⟨gb495, 3, none⟩) (Kd.R_far (p := ⟨gb495, 2, none⟩) (Kd.R_far (p := ⟨gb495, 1, none⟩) (Kd.R_far (p := ⟨gb495, 0, none⟩) (Kd.R_types HO_124.out BK495.out (by decide)) (fun _ hk => hk.2) (.int .i64 t486)) (fun _ hk => hk.2) (.int .i64 t487)) (fun _ hk => hk.2) (.slice Ao89 t488.length co89)) (fun _ hk => hk.2) (.int .i64 t491)) (fun _ hk => hk.2) (.int .i64 t492)) (fun _ h_ => h_.1))) hb); have n3_ := Aside0.mk (Kd.R_below (by (with_reducible repeat (first | apply Kd.R_alloc | apply Kd.R_drewN | apply Kd.R_drew)); exact (Kd.R_mono (Kd.R_far (p := ⟨gb495, 4, none⟩) (Kd.R_far (p := ⟨gb495, 3, none⟩) (Kd.R_far (p := ⟨gb495, 2, none⟩) (Kd.R_far (p := ⟨gb495, 1, none⟩) (Kd.R_far (p := ⟨gb495, 0, none⟩) (Kd.R_types HO480.out BK495.out (by decide)) (fun _ hk => hk.2) (.int .i64 t486)) (fun _ hk => hk.2) (.int .i64 t487)) (fun _ hk => hk.2) (.slice Ao89 t488.length co89)) (fun _ hk => hk.2) (.int .i64 t491)) (fun _ hk => hk.2) (.int .i64 t492)) (fun _ h_ => h_.1))) hb); have n4_ := Aside0.mk (Kd.V_below (by (with_reducible repeat (first | apply Kd.V_alloc | apply Kd.V_drewN | apply Kd.V_drew)); exact (Kd.V_mono (Kd.V_far (p := ⟨gb495, 4, none⟩) (Kd.V_far (p := ⟨gb495, 3, none⟩) (Kd.V_far (p := ⟨gb495, 2, none⟩) (Kd.V_far (p := ⟨gb495, 1, none⟩) (Kd.V_far (p := ⟨gb495, 0, none⟩) (Kd.V_mono HO490.out (fun k_ hk => (⟨hk, hk.2⟩ : _ ∧ k_ ≠ gb495))) (fun _ hk => hk.2) (.int .i64 t486)) (fun _ hk => hk.2) (.int .i64 t487)) (fun _ hk => hk.2) (.slice Ao89 t488.length co89)) (fun _ hk => hk.2) (.int .i64 t491)) (fun _ hk => hk.2) (.int .i64 t492)) (fun _ h_ => h_.1))) hb); have n5_ := Aside0.mk (blk_below (g := gb485) (o := .cells #[.int .i64 t476, .int .i64 t477, .slice Ao83 t478.length co83, .int .i64 t481, .int .i64 t482] 30 (0, 0)) (by (with_reducible repeat (first | refine blk_drewN ?_ _ | refine blk_drew ?_ | refine blk_alloc ?_ _)); refine blk_far ?_ NB485_495.out _; (with_reducible repeat (first | refine blk_drewN ?_ _ | refine blk_drew ?_ | refine blk_alloc ?_ _)); refine blk_far ?_ NB485_495.out _; (with_reducible repeat (first | refine blk_drewN ?_ _ | refine blk_drew ?_ | refine blk_alloc ?_ _)); refine blk_far ?_ NB485_495.out _; (with_reducible repeat (first | refine blk_drewN ?_ _ | refine blk_drew ?_ | refine blk_alloc ?_ _)); refine blk_far ?_ NB485_495.out _; (with_reducible repeat (first | refine blk_drewN ?_ _ | refine blk_drew ?_ | refine blk_alloc ?_ _)); refine blk_far ?_ NB485_495.out _; (with_reducible repeat (first | refine blk_drewN ?_ _ | refine blk_drew ?_ | refine blk_alloc ?_ _)); exact BK485.out) hb); have n6_ := Aside0.mk (blk_below (g := gb495) (o := .cells #[.int .i64 t486, .int .i64 t487, .slice Ao89 t488.length co89, .int .i64 t491, .int .i64 t492] 30 (0, 0)) (by (with_reducible repeat (first | refine blk_drewN ?_ _ | refine blk_drew ?_ | refine blk_alloc ?_ _)); refine blk_put (cs := #[.int .i64 t486, .int .i64 t487, .slice Ao89 t488.length co89, .int .i64 t491, .int .i64 0]) ?_ 4 _ rfl; (with_reducible repeat (first | refine blk_drewN ?_ _ | refine blk_drew ?_ | refine blk_alloc ?_ _)); refine blk_put (cs := #[.int .i64 t486, .int .i64 t487, .slice Ao89 t488.length co89, .int .i64 0, .int .i64 0]) ?_ 3 _ rfl; (with_reducible repeat (first | refine blk_drewN ?_ _ | refine blk_drew ?_ | refine blk_alloc ?_ _)); refine blk_put (cs := #[.int .i64 t486, .int .i64 t487, .slice none 0 0, .int .i64 0, .int .i64 0]) ?_ 2 _ rfl; (with_reducible repeat (first | refine blk_drewN ?_ _ | refine blk_drew ?_ | refine blk_alloc ?_ _)); refine blk_put (cs := #[.int .i64 t486, .int .i64 0, .slice none 0 0, .int .i64 0, .int .i64 0]) ?_ 1 _ rfl; (with_reducible repeat (first | refine blk_drewN ?_ _ | refine blk_drew ?_ | refine blk_alloc ?_ _)); refine blk_put (cs := #[.int .i64 0, .int .i64 0, .slice none 0 0, .int .i64 0, .int .i64 0]) ?_ 0 _ rfl; (with_reducible repeat (first | refine blk_drewN ?_ _ | refine blk_drew ?_ | refine blk_alloc ?_ _)); exact BK495.out) hb); have n7_ := Aside0.mk (below_step (by repeat (first | (with_reducible first | exact HB.out | apply below_alloc | apply pw_below_drewN | apply below_drew1 | refine below_set ?_ GE485.out | refine below_set ?_ GE495.out) | exact HB.out)) hb); clear HO_20; clear HO_113; clear HO_124; clear HO480; clear HO490; clear BK485; clear BK495; clear HB; have HO_20 := n0_; have HO_113 := n1_; have HO_124 := n2_; have HO480 := n3_; have HO490 := n4_; have BK485 := n5_; have BK495 := n6_; have HB := n7_; clear n0_ n1_ n2_ n3_ n4_ n5_ n6_ n7_; (try clear hb); (try clear hb2); (try clear hk); (try clear hi)))
                        go_roundg k5
                        case measure => have := HJ9.out; have := HJ15.out; have := HJ27.out; have := HK4.out; have := HK5.out; omega
                        case rel => exact ⟨(wrap64 (x126_5 + 1)), (by first | rfl | (simp; done) | (simp [*]; done)), H', ⟨by have := HJ9.out; have := HJ15.out; have := HJ27.out; have := HK4.out; have := HK5.out; omega⟩, ⟨by (try simp only [hl0_27]); (try simp only [hl16_27]); (with_reducible repeat (first | apply Kd.V_alloc | apply Kd.V_drewN | apply Kd.V_drew)); exact Kd.V_mono HO_20.out (fun _ hk => ⟨hk.1.1, ⟨hk.1.2.1, hk.1.2.2.1⟩⟩)⟩, ⟨by (try simp only [hl0_27]); (try simp only [hl16_27]); (with_reducible repeat (first | apply Kd.N_alloc | apply Kd.N_drewN | apply Kd.N_drew)); exact Kd.N_mono HO_113.out (fun _ hk => ⟨hk.1.1, hk.1.2.1⟩)⟩, ⟨by (try simp only [hl0_27]); (try simp only [hl16_27]); (with_reducible repeat (first | apply Kd.R_alloc | apply Kd.R_drewN | apply Kd.R_drew)); exact HO_124.out⟩, ⟨by repeat (first | (with_reducible first | exact HB.out | apply below_alloc | apply pw_below_drewN | apply below_drew1 | refine below_set ?_ GE485.out | refine below_set ?_ GE495.out) | exact HB.out)⟩⟩
                       ·replace c79 := Bool.eq_false_iff.mpr c79; subst c79; have H1 : (none) = some r := by rw [if_neg (show ¬ (false = true) by decide)] at H; exact H
                        clear H; have H := H1; clear H1; exact absurd H (by simp)
                      ·rw [if_neg c77] at H
                       exact absurd H (by simp)
                     ·rw [if_neg c76] at H
                      exact absurd H (by simp)
                    ·rw [if_neg c73] at H
                     exact absurd H (by simp)
                   ·rw [if_neg c72] at H
                    exact absurd H (by simp)
                  ·rw [if_neg c71] at H
                   have c71b0 : decide (x126_5 < (y472.length : Int)) = false := decide_eq_false c71
                   clear c71; have H' := Aside0.mk H; clear H; go_wp2
                   go_roundg k5
                   case measure => have := HJ9.out; have := HJ15.out; have := HJ27.out; have := HK4.out; have := HK5.out; omega
                   case rel => exact ⟨(wrap64 (x115_4 + 1)), (by first | rfl | (simp; done) | (simp [*]; done)), H', ⟨by have := HJ9.out; have := HJ15.out; have := HJ27.out; have := HK4.out; have := HK5.out; omega⟩, ⟨by (try simp only [hl0_27]); (try simp only [hl16_27]); (with_reducible repeat (first | apply Kd.N_alloc | apply Kd.N_drewN | apply Kd.N_drew)); exact Kd.N_mono HO_113.out (fun _ hk => hk.1)⟩, ⟨by repeat (first | (with_reducible first | exact HB.out | apply below_alloc | apply pw_below_drewN | apply below_drew1) | exact HB.out)⟩⟩
               ·rw [if_neg c67] at H
                exact absurd H (by simp)
              ·rw [if_neg c66] at H
               exact absurd H (by simp)
             ·rw [if_neg c65] at H
              have c65b0 : decide (x115_4 < (y468.length : Int)) = false := decide_eq_false c65
              clear c65; obtain rfl := Option.some.inj H
              go_wp2
              go_ret
              exact ⟨by first | rfl | (simp [errW_none, errW_some] <;> rfl) | (simp [*, errW_none, errW_some] <;> rfl), by repeat (first | (with_reducible first | exact HB.out | apply below_alloc | apply pw_below_drewN | apply below_drew1) | exact HB.out)⟩
        ·rw [if_neg c27] at H
         exact absurd H (by simp)
       ·rw [if_neg c26] at H
        exact absurd H (by simp)
 ·replace c9 := Bool.eq_false_iff.mpr c9; subst c9; have H1 : (none) = some r := by rw [if_neg (show ¬ (false = true) by decide)] at H; exact H
  clear H; have H := H1; clear H1; exact absurd H (by simp)
/-- THE ONE PURE STATEMENT of repriselaw23_EventReads: yours. -/
def repriselaw23_EventReads.Pure : Prop := ∀ (l0 : List Int) (a1 : Int) (l2 : List Int) (l3 : List Int) (a4 : Int) (a5 : Int) (a6 : Int), l0.length ≤ maxLen → l0.length * 1 ≤ 140737488351232 → (∀ x ∈ l0, (Lit.int .u8 x).wf = true) → (Lit.int .i64 a1).wf = true → l2.length ≤ maxLen → l2.length * 1 ≤ 140737488351232 → (∀ x ∈ l2, (Lit.int .u8 x).wf = true) → l3.length ≤ maxLen → l3.length * 1 ≤ 140737488351232 → (∀ x ∈ l3, (Lit.int .u8 x).wf = true) → (Lit.int .u16 a4).wf = true → (Lit.int .u8 a5).wf = true → (Lit.int .u8 a6).wf = true → ∃ k, repriselaw23_EventReads.f k l0 a1 l2 l3 a4 a5 a6 = some true
theorem repriselaw23_EventReads.walk (P : repriselaw23_EventReads.Pure) (a0 : Option Addr) (len0 cap0 : Nat) (z0 : List Int) (a1 : Int) (a2 : Option Addr) (len2 cap2 : Nat) (z2 : List Int) (a3 : Option Addr) (len3 cap3 : Nat) (z3 : List Int) (a4 : Int) (a5 : Int) (a6 : Int) (w : World) (w0 : (a0 = none ∧ len0 = 0 ∧ cap0 = 0 ∧ z0 = []) ∨ ∃ x, a0 = some x ∧ len0 ≤ cap0 ∧ cap0 ≤ maxLen ∧ z0.length = cap0 ∧ (∀ i, i < z0.length → w.cell? (x.add i) = some (.int .u8 (z0.getD i 0))) ∧ ∀ n ∈ z0, (Lit.int .u8 n).wf = true) (y0 : len0 * 1 ≤ 140737488351232) (w1 : (Lit.int .i64 a1).wf = true) (w2 : (a2 = none ∧ len2 = 0 ∧ cap2 = 0 ∧ z2 = []) ∨ ∃ x, a2 = some x ∧ len2 ≤ cap2 ∧ cap2 ≤ maxLen ∧ z2.length = cap2 ∧ (∀ i, i < z2.length → w.cell? (x.add i) = some (.int .u8 (z2.getD i 0))) ∧ ∀ n ∈ z2, (Lit.int .u8 n).wf = true) (y2 : len2 * 1 ≤ 140737488351232) (w3 : (a3 = none ∧ len3 = 0 ∧ cap3 = 0 ∧ z3 = []) ∨ ∃ x, a3 = some x ∧ len3 ≤ cap3 ∧ cap3 ≤ maxLen ∧ z3.length = cap3 ∧ (∀ i, i < z3.length → w.cell? (x.add i) = some (.int .u8 (z3.getD i 0))) ∧ ∀ n ∈ z3, (Lit.int .u8 n).wf = true) (y3 : len3 * 1 ≤ 140737488351232) (w4 : (Lit.int .u16 a4).wf = true) (w5 : (Lit.int .u8 a5).wf = true) (w6 : (Lit.int .u8 a6).wf = true) :
 Calls Try.prog 3 #[.slice a0 len0 cap0, .int .i64 a1, .slice a2 len2 cap2, .slice a3 len3 cap3, .int .u16 a4, .int .u8 a5, .int .u8 a6] w fun e w' => e = .returned (.bool true) ∧ Below w.heap.size w w' := by
 obtain ⟨l0, rfl, hr0, hm0, hw0, hc0⟩ := ReadsInt.ofRowC w0; obtain ⟨l2, rfl, hr2, hm2, hw2, hc2⟩ := ReadsInt.ofRowC w2; obtain ⟨l3, rfl, hr3, hm3, hw3, hc3⟩ := ReadsInt.ofRowC w3; obtain ⟨k, h⟩ := P l0 a1 l2 l3 a4 a5 a6 hm0 y0 hw0 w1 hm2 y2 hw2 hm3 y3 hw3 w4 w5 w6; refine (repriselaw23_EventReads.calls k (fun k_ => k_ < w.heap.size) _ _ l0 a1 _ _ l2 _ _ l3 a4 a5 a6 true w (Kd.V_mk hc0 (Kd.C_F (Kd.heap_int .u8) (Kd.C_of_reads (d := (0 : Int)) (h1 := fun _ => rfl) hr0))) (Kd.C_of_reads (d := (0 : Int)) (h1 := fun _ => rfl) hr2) hc2 (Kd.C_of_reads (d := (0 : Int)) (h1 := fun _ => rfl) hr3) hc3 h).mono ?_
 rintro e w' ⟨rfl, hd⟩
 exact ⟨rfl, hd⟩
end Go.Proofs.Ytmaefdeigienjaa.QEventReads
