/- Lean functions for the Go functions that the law reaches, and proofs that each call comes to just what its Lean function tells; no condition. (Written by a program of this session.) -/
import Derived.Test.YtmaefdeigienjaaQEventReadsx0
namespace Go.Proofs.Ytmaefdeigienjaa.QEventReads
open Go.RowKit Go.Proofs.YtmaefdeigienjaaW.PrintWords Go.Proofs.YtmaefdeigienjaaW.PrintLast Go.Proofs.YtmaefdeigienjaaW.PrintMore
attribute [local go_sem] max2_int min2_int max_two min_two max_three min_three max_four min_four   -- for this text's walks alone
set_option linter.unusedVariables false
set_option linter.unusedSimpArgs false
/-! ### repriseref23_Fault: function 25 -/
mutual
def repriseref23_Fault.j0 : Nat → Int → Bool → Int → Int → List Int → Int → Int → Option (Int)
 | 0, _, _, _, _, _, _, _ => none
 | k + 1, x0, x5, x343000, x343001, x343002, x343003, x343004 => if x5 = true then (some 27) else (if (x343002.length : Int) > 1048576 then (some 25) else (if x343001 = 2 then (if x343003 < 1 then (repriseref23_Fault.j1 k x0 true x343000 x343001 x343002 x343003 x343004) else (if x343003 > 1000 then (repriseref23_Fault.j1 k x0 true x343000 x343001 x343002 x343003 x343004) else (if x343004 < 1 then (repriseref23_Fault.j1 k x0 true x343000 x343001 x343002 x343003 x343004) else (repriseref23_Fault.j1 k x0 (decide (x343004 > 1000)) x343000 x343001 x343002 x343003 x343004)))) else (repriseref23_Fault.j1 k x0 false x343000 x343001 x343002 x343003 x343004)))
def repriseref23_Fault.j1 : Nat → Int → Bool → Int → Int → List Int → Int → Int → Option (Int)
 | 0, _, _, _, _, _, _, _ => none
 | k + 1, x0, x45, x343000, x343001, x343002, x343003, x343004 => if x45 = true then (some 26) else (if x0 < 0 then (some 24) else (if x0 > 4611686018427387904 then (some 24) else (if x343000 < x0 then (some 24) else (if x343000 > 4611686018427387904 then (some 24) else (some 0)))))
end
def repriseref23_Fault.f (k : Nat) (a0 : Int) (a1_0 : Int) (a1_1 : Int) (l1_2 : List Int) (a1_3 : Int) (a1_4 : Int) : Option (Int) := if a1_1 < 0 then (repriseref23_Fault.j0 k a0 true a1_0 a1_1 l1_2 a1_3 a1_4) else (if a1_1 > 2 then (repriseref23_Fault.j0 k a0 true a1_0 a1_1 l1_2 a1_3 a1_4) else (if a1_1 = 2 then (repriseref23_Fault.j0 k a0 (decide ((l1_2.length : Int) > 0)) a1_0 a1_1 l1_2 a1_3 a1_4) else (if a1_3 = 0 then (if a1_4 = 0 then (repriseref23_Fault.j0 k a0 false a1_0 a1_1 l1_2 a1_3 a1_4) else (repriseref23_Fault.j0 k a0 true a1_0 a1_1 l1_2 a1_3 a1_4)) else (repriseref23_Fault.j0 k a0 true a1_0 a1_1 l1_2 a1_3 a1_4))))
theorem repriseref23_Fault.mono_l : ∀ k, (∀ y0 y1 y2 y3 y4 y5 y6, LeO (repriseref23_Fault.j0 k y0 y1 y2 y3 y4 y5 y6) (repriseref23_Fault.j0 (k + 1) y0 y1 y2 y3 y4 y5 y6)) ∧ (∀ y0 y1 y2 y3 y4 y5 y6, LeO (repriseref23_Fault.j1 k y0 y1 y2 y3 y4 y5 y6) (repriseref23_Fault.j1 (k + 1) y0 y1 y2 y3 y4 y5 y6))
 | 0 => ⟨fun _ _ _ _ _ _ _ r h => by simp [repriseref23_Fault.j0] at h, fun _ _ _ _ _ _ _ r h => by simp [repriseref23_Fault.j1] at h⟩
 | k + 1 => by
  obtain ⟨ih0, ih1⟩ := repriseref23_Fault.mono_l k; refine ⟨?_, ?_⟩
  ·intro y0 y1 y2 y3 y4 y5 y6
   unfold repriseref23_Fault.j0
   repeat' first
   | (with_reducible exact ih0 _ _ _ _ _ _ _)
   | (with_reducible exact ih1 _ _ _ _ _ _ _)
   | (with_reducible exact LeO.refl _)
   | (with_reducible exact LeO.none _)
   | (with_reducible refine LeO.ite ?_ ?_)
   | (with_reducible refine LeO.bind ?_ (fun _ => ?_))
   | exact ih0 _ _ _ _ _ _ _
   | exact ih1 _ _ _ _ _ _ _
   | exact LeO.none _
   | refine LeO.ite ?_ ?_
   | refine LeO.bind ?_ (fun _ => ?_)
  ·intro y0 y1 y2 y3 y4 y5 y6
   unfold repriseref23_Fault.j1
   repeat' first
   | (with_reducible exact ih0 _ _ _ _ _ _ _)
   | (with_reducible exact ih1 _ _ _ _ _ _ _)
   | (with_reducible exact LeO.refl _)
   | (with_reducible exact LeO.none _)
   | (with_reducible refine LeO.ite ?_ ?_)
   | (with_reducible refine LeO.bind ?_ (fun _ => ?_))
   | exact ih0 _ _ _ _ _ _ _
   | exact ih1 _ _ _ _ _ _ _
   | exact LeO.none _
   | refine LeO.ite ?_ ?_
   | refine LeO.bind ?_ (fun _ => ?_)
theorem repriseref23_Fault.mono : ∀ a0 a1 a2 a3 a4 a5 k, LeO (repriseref23_Fault.f k a0 a1 a2 a3 a4 a5) (repriseref23_Fault.f (k + 1) a0 a1 a2 a3 a4 a5) := by
 intro a0 a1 a2 a3 a4 a5 k
 obtain ⟨ih0, ih1⟩ := repriseref23_Fault.mono_l k; unfold repriseref23_Fault.f
 repeat' first
  | (with_reducible exact ih0 _ _ _ _ _ _ _)
  | (with_reducible exact ih1 _ _ _ _ _ _ _)
  | (with_reducible exact LeO.refl _)
  | (with_reducible exact LeO.none _)
  | (with_reducible refine LeO.ite ?_ ?_)
  | (with_reducible refine LeO.bind ?_ (fun _ => ?_))
  | exact ih0 _ _ _ _ _ _ _
  | exact ih1 _ _ _ _ _ _ _
  | exact LeO.none _
  | refine LeO.ite ?_ ?_
  | refine LeO.bind ?_ (fun _ => ?_)
set_option maxHeartbeats 8000000 in
set_option maxRecDepth 100000 in
theorem repriseref23_Fault.calls (k : Nat) (a0 : Int) (a1_0 : Int) (a1_1 : Int) (A1_2 : Option Addr) (c1_2 : Nat) (l1_2 : List Int) (a1_3 : Int) (a1_4 : Int) (r : Int) (w : World) (hr1_2 : Kd.C (Kd.int .u8) w A1_2 l1_2.length l1_2) (hc1_2 : l1_2.length ≤ c1_2) (h : repriseref23_Fault.f k a0 a1_0 a1_1 l1_2 a1_3 a1_4 = some r) :
 Calls Try.prog 25 #[.int .i64 a0, .agg #[.int .i64 a1_0, .int .i64 a1_1, .slice A1_2 l1_2.length c1_2, .int .i64 a1_3, .int .i64 a1_4]] w fun e w' => e = .returned (.int .i64 r) ∧ Below w.heap.size w w' := by
 have hu30 := Try.underlying30; have HR1_2 := Aside0.mk hr1_2; have HC1_2 := Aside0.mk hc1_2; clear hr1_2 hc1_2; have HB := Aside0.mk (Below.refl w.heap.size w)
 have H : (if a1_1 < 0 then (repriseref23_Fault.j0 k a0 true a1_0 a1_1 l1_2 a1_3 a1_4) else (if a1_1 > 2 then (repriseref23_Fault.j0 k a0 true a1_0 a1_1 l1_2 a1_3 a1_4) else (if a1_1 = 2 then (repriseref23_Fault.j0 k a0 (decide ((l1_2.length : Int) > 0)) a1_0 a1_1 l1_2 a1_3 a1_4) else (if a1_3 = 0 then (if a1_4 = 0 then (repriseref23_Fault.j0 k a0 false a1_0 a1_1 l1_2 a1_3 a1_4) else (repriseref23_Fault.j0 k a0 true a1_0 a1_1 l1_2 a1_3 a1_4)) else (repriseref23_Fault.j0 k a0 true a1_0 a1_1 l1_2 a1_3 a1_4))))) = some r := h
 clear h; have HC3 := Aside0.mk H; clear H; go_enter Try.func25, Try.ntmps25
 go_upto_region 1 with (first | ((with_reducible refine gate_dst (N := 3) rfl ?_); (try (refine gate_guard (by rfl) ?_; dsimp only)); refine box_event ?hg (N := 3) ?hd (cs := #[.int .i64 a1_0, .int .i64 a1_1, .slice A1_2 l1_2.length c1_2, .int .i64 a1_3, .int .i64 a1_4]) (t := 30) ?hr ?_; (case hd => rfl); (case hg => rfl); (case hr => first | (go_simp; done) | (go_simp; rfl)); intro gb342 hg w4 hbox hb; have n0_ := Aside0.mk (below_step (by repeat (first | (with_reducible first | exact HB.out | apply below_alloc | apply pw_below_drewN | apply below_drew1) | exact HB.out)) hb); have n1_ := Aside0.mk (hbox); have n2_ := Aside0.mk ((by rw [hg]; exact (below_size (by repeat (first | (with_reducible first | exact HB.out | apply below_alloc | apply pw_below_drewN | apply below_drew1) | exact HB.out))) : w.heap.size ≤ gb342)); have n3_ := Aside0.mk ((by rw [hg]; exact (below_size (by repeat (first | (with_reducible first | exact HB.out | apply below_alloc | apply pw_below_drewN | apply below_drew1) | exact HB.out))) : w.heap.size ≤ gb342)); clear HB; have HB := n0_; have BK342 := n1_; have GW342 := n2_; have GE342 := n3_; clear n0_ n1_ n2_ n3_; clear hb hbox hg))
 (try simp only [Act.put, List.setIfInBounds_toArray, List.set_cons_zero, List.set_cons_succ])
 go_cut [5] (fun v5 wc => ∃ (kq : Nat) (x5_2 : Bool), v5 = .bool x5_2 ∧ Aside0 (repriseref23_Fault.j0 kq a0 x5_2 a1_0 a1_1 l1_2 a1_3 a1_4 = some r) ∧ Aside0 (kq ≤ k) ∧ Aside0 (wc.heap[gb342]? = some (.cells #[.int .i64 a1_0, .int .i64 a1_1, (.slice A1_2 l1_2.length c1_2), .int .i64 a1_3, .int .i64 a1_4] 30 (0, 0))) ∧ Aside0 (Below w.heap.size w wc))
 case first =>
  have H := HC3.out; clear HC3; by_cases c5 : a1_1 < 0
  ·rw [if_pos c5] at H
   have c5b0 : decide (a1_1 < 0) = true := decide_eq_true c5
   clear c5; (first | rw [c5b0] | (simp only [i64_w, i32_w]; rw [c5b0]) | skip)
   have H' := Aside0.mk H; clear H; have hcz6_0 : w4.cell? ⟨gb342, 0, none⟩ = some (.int .i64 a1_0) := (blk_cell BK342.out 0).trans rfl
   have hcz6_1 : w4.cell? ⟨gb342, 1, none⟩ = some (.int .i64 a1_1) := (blk_cell BK342.out 1).trans rfl
   have hcz6_2 : w4.cell? ⟨gb342, 2, none⟩ = some (.slice A1_2 l1_2.length c1_2) := (blk_cell BK342.out 2).trans rfl
   have hcz6_3 : w4.cell? ⟨gb342, 3, none⟩ = some (.int .i64 a1_3) := (blk_cell BK342.out 3).trans rfl
   have hcz6_4 : w4.cell? ⟨gb342, 4, none⟩ = some (.int .i64 a1_4) := (blk_cell BK342.out 4).trans rfl
   have hfz6_0 := blk_frozen BK342.out 0; have hfz6_1 := blk_frozen BK342.out 1; have hfz6_2 := blk_frozen BK342.out 2; have hfz6_3 := blk_frozen BK342.out 3; have hfz6_4 := blk_frozen BK342.out 4; go_wp2
   go_meet
   case rel => exact ⟨_, (true), (by first | rfl | (simp; done) | (simp [*]; done)), H', ⟨by first | omega | exact Nat.le_refl _⟩, ⟨by (with_reducible repeat (first | refine blk_drewN ?_ _ | refine blk_drew ?_ | refine blk_alloc ?_ _)); exact BK342.out⟩, ⟨by repeat (first | (with_reducible first | exact HB.out | apply below_alloc | apply pw_below_drewN | apply below_drew1 | refine below_set ?_ GE342.out) | exact HB.out)⟩⟩
  ·rw [if_neg c5] at H
   have c5b0 : decide (a1_1 < 0) = false := decide_eq_false c5
   clear c5; (first | rw [c5b0] | (simp only [i64_w, i32_w]; rw [c5b0]) | skip)
   by_cases c7 : a1_1 > 2
   ·rw [if_pos c7] at H
    have c7b0 : decide (2 < a1_1) = true := decide_eq_true c7
    clear c7; have H' := Aside0.mk H; clear H; have hcz8_0 : w4.cell? ⟨gb342, 0, none⟩ = some (.int .i64 a1_0) := (blk_cell BK342.out 0).trans rfl
    have hcz8_1 : w4.cell? ⟨gb342, 1, none⟩ = some (.int .i64 a1_1) := (blk_cell BK342.out 1).trans rfl
    have hcz8_2 : w4.cell? ⟨gb342, 2, none⟩ = some (.slice A1_2 l1_2.length c1_2) := (blk_cell BK342.out 2).trans rfl
    have hcz8_3 : w4.cell? ⟨gb342, 3, none⟩ = some (.int .i64 a1_3) := (blk_cell BK342.out 3).trans rfl
    have hcz8_4 : w4.cell? ⟨gb342, 4, none⟩ = some (.int .i64 a1_4) := (blk_cell BK342.out 4).trans rfl
    have hfz8_0 := blk_frozen BK342.out 0; have hfz8_1 := blk_frozen BK342.out 1; have hfz8_2 := blk_frozen BK342.out 2; have hfz8_3 := blk_frozen BK342.out 3; have hfz8_4 := blk_frozen BK342.out 4; go_wp2
    go_meet
    case rel => exact ⟨_, (true), (by first | rfl | (simp; done) | (simp [*]; done)), H', ⟨by first | omega | exact Nat.le_refl _⟩, ⟨by (with_reducible repeat (first | refine blk_drewN ?_ _ | refine blk_drew ?_ | refine blk_alloc ?_ _)); exact BK342.out⟩, ⟨by repeat (first | (with_reducible first | exact HB.out | apply below_alloc | apply pw_below_drewN | apply below_drew1 | refine below_set ?_ GE342.out) | exact HB.out)⟩⟩
   ·rw [if_neg c7] at H
    have c7b0 : decide (2 < a1_1) = false := decide_eq_false c7
    clear c7; by_cases c9 : a1_1 = 2
    ·rw [if_pos c9] at H
     have c9b0 : (a1_1 == 2) = true := beq_iff_eq.mpr c9
     have c9b1 : (a1_1 != 2) = false := bne_eq_false_iff_eq.mpr c9
     clear c9; have H' := Aside0.mk H; clear H; have hcz10_0 : w4.cell? ⟨gb342, 0, none⟩ = some (.int .i64 a1_0) := (blk_cell BK342.out 0).trans rfl
     have hcz10_1 : w4.cell? ⟨gb342, 1, none⟩ = some (.int .i64 a1_1) := (blk_cell BK342.out 1).trans rfl
     have hcz10_2 : w4.cell? ⟨gb342, 2, none⟩ = some (.slice A1_2 l1_2.length c1_2) := (blk_cell BK342.out 2).trans rfl
     have hcz10_3 : w4.cell? ⟨gb342, 3, none⟩ = some (.int .i64 a1_3) := (blk_cell BK342.out 3).trans rfl
     have hcz10_4 : w4.cell? ⟨gb342, 4, none⟩ = some (.int .i64 a1_4) := (blk_cell BK342.out 4).trans rfl
     have hfz10_0 := blk_frozen BK342.out 0; have hfz10_1 := blk_frozen BK342.out 1; have hfz10_2 := blk_frozen BK342.out 2; have hfz10_3 := blk_frozen BK342.out 3; have hfz10_4 := blk_frozen BK342.out 4; go_wp2
     go_meet
     case rel => exact ⟨_, (decide ((l1_2.length : Int) > 0)), (by first | rfl | (simp; done) | (simp [*]; done)), H', ⟨by first | omega | exact Nat.le_refl _⟩, ⟨by (with_reducible repeat (first | refine blk_drewN ?_ _ | refine blk_drew ?_ | refine blk_alloc ?_ _)); exact BK342.out⟩, ⟨by repeat (first | (with_reducible first | exact HB.out | apply below_alloc | apply pw_below_drewN | apply below_drew1 | refine below_set ?_ GE342.out) | exact HB.out)⟩⟩
    ·rw [if_neg c9] at H
     have c9b0 : (a1_1 == 2) = false := beq_eq_false_iff_ne.mpr c9
     have c9b1 : (a1_1 != 2) = true := bne_iff_ne.mpr c9
     by_cases c11 : a1_3 = 0
     ·rw [if_pos c11] at H
      have c11b0 : (a1_3 == 0) = true := beq_iff_eq.mpr c11
      have c11b1 : (a1_3 != 0) = false := bne_eq_false_iff_eq.mpr c11
      clear c11; by_cases c12 : a1_4 = 0
      ·rw [if_pos c12] at H
       have c12b0 : (a1_4 == 0) = true := beq_iff_eq.mpr c12
       have c12b1 : (a1_4 != 0) = false := bne_eq_false_iff_eq.mpr c12
       clear c12; have H' := Aside0.mk H; clear H; have hcz13_0 : w4.cell? ⟨gb342, 0, none⟩ = some (.int .i64 a1_0) := (blk_cell BK342.out 0).trans rfl
       have hcz13_1 : w4.cell? ⟨gb342, 1, none⟩ = some (.int .i64 a1_1) := (blk_cell BK342.out 1).trans rfl
       have hcz13_2 : w4.cell? ⟨gb342, 2, none⟩ = some (.slice A1_2 l1_2.length c1_2) := (blk_cell BK342.out 2).trans rfl
       have hcz13_3 : w4.cell? ⟨gb342, 3, none⟩ = some (.int .i64 a1_3) := (blk_cell BK342.out 3).trans rfl
       have hcz13_4 : w4.cell? ⟨gb342, 4, none⟩ = some (.int .i64 a1_4) := (blk_cell BK342.out 4).trans rfl
       have hfz13_0 := blk_frozen BK342.out 0; have hfz13_1 := blk_frozen BK342.out 1; have hfz13_2 := blk_frozen BK342.out 2; have hfz13_3 := blk_frozen BK342.out 3; have hfz13_4 := blk_frozen BK342.out 4; go_wp2
       go_meet
       case rel => exact ⟨_, (false), (by first | rfl | (simp; done) | (simp [*]; done)), H', ⟨by first | omega | exact Nat.le_refl _⟩, ⟨by (with_reducible repeat (first | refine blk_drewN ?_ _ | refine blk_drew ?_ | refine blk_alloc ?_ _)); exact BK342.out⟩, ⟨by repeat (first | (with_reducible first | exact HB.out | apply below_alloc | apply pw_below_drewN | apply below_drew1 | refine below_set ?_ GE342.out) | exact HB.out)⟩⟩
      ·rw [if_neg c12] at H
       have c12b0 : (a1_4 == 0) = false := beq_eq_false_iff_ne.mpr c12
       have c12b1 : (a1_4 != 0) = true := bne_iff_ne.mpr c12
       have H' := Aside0.mk H; clear H; have hcz14_0 : w4.cell? ⟨gb342, 0, none⟩ = some (.int .i64 a1_0) := (blk_cell BK342.out 0).trans rfl
       have hcz14_1 : w4.cell? ⟨gb342, 1, none⟩ = some (.int .i64 a1_1) := (blk_cell BK342.out 1).trans rfl
       have hcz14_2 : w4.cell? ⟨gb342, 2, none⟩ = some (.slice A1_2 l1_2.length c1_2) := (blk_cell BK342.out 2).trans rfl
       have hcz14_3 : w4.cell? ⟨gb342, 3, none⟩ = some (.int .i64 a1_3) := (blk_cell BK342.out 3).trans rfl
       have hcz14_4 : w4.cell? ⟨gb342, 4, none⟩ = some (.int .i64 a1_4) := (blk_cell BK342.out 4).trans rfl
       have hfz14_0 := blk_frozen BK342.out 0; have hfz14_1 := blk_frozen BK342.out 1; have hfz14_2 := blk_frozen BK342.out 2; have hfz14_3 := blk_frozen BK342.out 3; have hfz14_4 := blk_frozen BK342.out 4; go_wp2
       go_meet
       case rel => exact ⟨_, (true), (by first | rfl | (simp; done) | (simp [*]; done)), H', ⟨by first | omega | exact Nat.le_refl _⟩, ⟨by (with_reducible repeat (first | refine blk_drewN ?_ _ | refine blk_drew ?_ | refine blk_alloc ?_ _)); exact BK342.out⟩, ⟨by repeat (first | (with_reducible first | exact HB.out | apply below_alloc | apply pw_below_drewN | apply below_drew1 | refine below_set ?_ GE342.out) | exact HB.out)⟩⟩
     ·rw [if_neg c11] at H
      have c11b0 : (a1_3 == 0) = false := beq_eq_false_iff_ne.mpr c11
      have c11b1 : (a1_3 != 0) = true := bne_iff_ne.mpr c11
      have H' := Aside0.mk H; clear H; have hcz15_0 : w4.cell? ⟨gb342, 0, none⟩ = some (.int .i64 a1_0) := (blk_cell BK342.out 0).trans rfl
      have hcz15_1 : w4.cell? ⟨gb342, 1, none⟩ = some (.int .i64 a1_1) := (blk_cell BK342.out 1).trans rfl
      have hcz15_2 : w4.cell? ⟨gb342, 2, none⟩ = some (.slice A1_2 l1_2.length c1_2) := (blk_cell BK342.out 2).trans rfl
      have hcz15_3 : w4.cell? ⟨gb342, 3, none⟩ = some (.int .i64 a1_3) := (blk_cell BK342.out 3).trans rfl
      have hcz15_4 : w4.cell? ⟨gb342, 4, none⟩ = some (.int .i64 a1_4) := (blk_cell BK342.out 4).trans rfl
      have hfz15_0 := blk_frozen BK342.out 0; have hfz15_1 := blk_frozen BK342.out 1; have hfz15_2 := blk_frozen BK342.out 2; have hfz15_3 := blk_frozen BK342.out 3; have hfz15_4 := blk_frozen BK342.out 4; go_wp2
      go_meet
      case rel => exact ⟨_, (true), (by first | rfl | (simp; done) | (simp [*]; done)), H', ⟨by first | omega | exact Nat.le_refl _⟩, ⟨by (with_reducible repeat (first | refine blk_drewN ?_ _ | refine blk_drew ?_ | refine blk_alloc ?_ _)); exact BK342.out⟩, ⟨by repeat (first | (with_reducible first | exact HB.out | apply below_alloc | apply pw_below_drewN | apply below_drew1 | refine below_set ?_ GE342.out) | exact HB.out)⟩⟩
 case rest =>
  clear HC3
  try clear c1
  try clear c2
  try clear p2
  try clear c5
  try clear c5b0
  try clear c7
  try clear c7b0
  try clear c9
  try clear c9b0
  try clear c9b1
  try clear c11
  try clear c11b0
  try clear c11b1
  try clear c12
  try clear c12b0
  try clear c12b1
  try clear hcz10_0
  try clear hcz10_1
  try clear hcz10_2
  try clear hcz10_3
  try clear hcz10_4
  try clear hcz13_0
  try clear hcz13_1
  try clear hcz13_2
  try clear hcz13_3
  try clear hcz13_4
  try clear hcz14_0
  try clear hcz14_1
  try clear hcz14_2
  try clear hcz14_3
  try clear hcz14_4
  try clear hcz15_0
  try clear hcz15_1
  try clear hcz15_2
  try clear hcz15_3
  try clear hcz15_4
  try clear hcz6_0
  try clear hcz6_1
  try clear hcz6_2
  try clear hcz6_3
  try clear hcz6_4
  try clear hcz8_0
  try clear hcz8_1
  try clear hcz8_2
  try clear hcz8_3
  try clear hcz8_4
  try clear hfz10_0
  try clear hfz10_1
  try clear hfz10_2
  try clear hfz10_3
  try clear hfz10_4
  try clear hfz13_0
  try clear hfz13_1
  try clear hfz13_2
  try clear hfz13_3
  try clear hfz13_4
  try clear hfz14_0
  try clear hfz14_1
  try clear hfz14_2
  try clear hfz14_3
  try clear hfz14_4
  try clear hfz15_0
  try clear hfz15_1
  try clear hfz15_2
  try clear hfz15_3
  try clear hfz15_4
  try clear hfz6_0
  try clear hfz6_1
  try clear hfz6_2
  try clear hfz6_3
  try clear hfz6_4
  try clear hfz8_0
  try clear hfz8_1
  try clear hfz8_2
  try clear hfz8_3
  try clear hfz8_4
  obtain ⟨kq, x5_2, rfl, HA, HJ2, BK342, HB⟩ := hcut; cases kq with
  | zero => exact absurd HA.out (by simp [repriseref23_Fault.j0])
  | succ kj2 =>
   have H := HA.out; clear HA; simp only [repriseref23_Fault.j0] at H
   by_cases c16 : x5_2 = true
   ·subst c16; have H1 : (some 27) = some r := by rw [if_pos rfl] at H; exact H
    clear H; have H := H1; clear H1; obtain rfl := Option.some.inj H
    go_wp2
    go_ret
    exact ⟨by first | rfl | (simp [errW_none, errW_some] <;> rfl) | (simp [*, errW_none, errW_some] <;> rfl), by repeat (first | (with_reducible first | exact HB.out | apply below_alloc | apply pw_below_drewN | apply below_drew1 | refine below_set ?_ GE342.out) | exact HB.out)⟩
   ·replace c16 := Bool.eq_false_iff.mpr c16; subst c16; have H1 : (if (l1_2.length : Int) > 1048576 then (some 25) else (if a1_1 = 2 then (if a1_3 < 1 then (repriseref23_Fault.j1 kj2 a0 true a1_0 a1_1 l1_2 a1_3 a1_4) else (if a1_3 > 1000 then (repriseref23_Fault.j1 kj2 a0 true a1_0 a1_1 l1_2 a1_3 a1_4) else (if a1_4 < 1 then (repriseref23_Fault.j1 kj2 a0 true a1_0 a1_1 l1_2 a1_3 a1_4) else (repriseref23_Fault.j1 kj2 a0 (decide (a1_4 > 1000)) a1_0 a1_1 l1_2 a1_3 a1_4)))) else (repriseref23_Fault.j1 kj2 a0 false a1_0 a1_1 l1_2 a1_3 a1_4))) = some r := by rw [if_neg (show ¬ (false = true) by decide)] at H; exact H
    clear H; have H := H1; clear H1; by_cases c17 : (l1_2.length : Int) > 1048576
    ·rw [if_pos c17] at H
     have c17b0 : decide (1048576 < (l1_2.length : Int)) = true := decide_eq_true c17
     have c17b1 : decide (1048576 < l1_2.length) = true := decide_eq_true (by omega)
     clear c17; obtain rfl := Option.some.inj H
     have hcz18_0 : wc.cell? ⟨gb342, 0, none⟩ = some (.int .i64 a1_0) := (blk_cell BK342.out 0).trans rfl
     have hcz18_1 : wc.cell? ⟨gb342, 1, none⟩ = some (.int .i64 a1_1) := (blk_cell BK342.out 1).trans rfl
     have hcz18_2 : wc.cell? ⟨gb342, 2, none⟩ = some (.slice A1_2 l1_2.length c1_2) := (blk_cell BK342.out 2).trans rfl
     have hcz18_3 : wc.cell? ⟨gb342, 3, none⟩ = some (.int .i64 a1_3) := (blk_cell BK342.out 3).trans rfl
     have hcz18_4 : wc.cell? ⟨gb342, 4, none⟩ = some (.int .i64 a1_4) := (blk_cell BK342.out 4).trans rfl
     have hfz18_0 := blk_frozen BK342.out 0; have hfz18_1 := blk_frozen BK342.out 1; have hfz18_2 := blk_frozen BK342.out 2; have hfz18_3 := blk_frozen BK342.out 3; have hfz18_4 := blk_frozen BK342.out 4; go_wp2
     go_ret
     exact ⟨by first | rfl | (simp [errW_none, errW_some] <;> rfl) | (simp [*, errW_none, errW_some] <;> rfl), by repeat (first | (with_reducible first | exact HB.out | apply below_alloc | apply pw_below_drewN | apply below_drew1 | refine below_set ?_ GE342.out) | exact HB.out)⟩
    ·rw [if_neg c17] at H
     have c17b0 : decide (1048576 < (l1_2.length : Int)) = false := decide_eq_false c17
     have c17b1 : decide (1048576 < l1_2.length) = false := decide_eq_false (by omega)
     clear c17; have HC19 := Aside0.mk H; clear H; have hcz20_0 : wc.cell? ⟨gb342, 0, none⟩ = some (.int .i64 a1_0) := (blk_cell BK342.out 0).trans rfl
     have hcz20_1 : wc.cell? ⟨gb342, 1, none⟩ = some (.int .i64 a1_1) := (blk_cell BK342.out 1).trans rfl
     have hcz20_2 : wc.cell? ⟨gb342, 2, none⟩ = some (.slice A1_2 l1_2.length c1_2) := (blk_cell BK342.out 2).trans rfl
     have hcz20_3 : wc.cell? ⟨gb342, 3, none⟩ = some (.int .i64 a1_3) := (blk_cell BK342.out 3).trans rfl
     have hcz20_4 : wc.cell? ⟨gb342, 4, none⟩ = some (.int .i64 a1_4) := (blk_cell BK342.out 4).trans rfl
     have hfz20_0 := blk_frozen BK342.out 0; have hfz20_1 := blk_frozen BK342.out 1; have hfz20_2 := blk_frozen BK342.out 2; have hfz20_3 := blk_frozen BK342.out 3; have hfz20_4 := blk_frozen BK342.out 4; go_upto_region 5 with (fail)
     go_cut [45] (fun v45 wc => ∃ (kq : Nat) (x45_18 : Bool), v45 = .bool x45_18 ∧ Aside0 (repriseref23_Fault.j1 kq a0 x45_18 a1_0 a1_1 l1_2 a1_3 a1_4 = some r) ∧ Aside0 (kq ≤ kj2) ∧ Aside0 (wc.heap[gb342]? = some (.cells #[.int .i64 a1_0, .int .i64 a1_1, (.slice A1_2 l1_2.length c1_2), .int .i64 a1_3, .int .i64 a1_4] 30 (0, 0))) ∧ Aside0 (Below w.heap.size w wc))
     case first =>
      have H := HC19.out; clear HC19; by_cases c21 : a1_1 = 2
      ·rw [if_pos c21] at H
       have c21b0 : (a1_1 == 2) = true := beq_iff_eq.mpr c21
       have c21b1 : (a1_1 != 2) = false := bne_eq_false_iff_eq.mpr c21
       clear c21; (first | rw [c21b0] | (simp only [i64_w, i32_w]; rw [c21b0]) | skip)
       by_cases c22 : a1_3 < 1
       ·rw [if_pos c22] at H
        have c22b0 : decide (a1_3 < 1) = true := decide_eq_true c22
        clear c22; have H' := Aside0.mk H; clear H; have hcz23_0 : wc.cell? ⟨gb342, 0, none⟩ = some (.int .i64 a1_0) := (blk_cell BK342.out 0).trans rfl
        have hcz23_1 : wc.cell? ⟨gb342, 1, none⟩ = some (.int .i64 a1_1) := (blk_cell BK342.out 1).trans rfl
        have hcz23_2 : wc.cell? ⟨gb342, 2, none⟩ = some (.slice A1_2 l1_2.length c1_2) := (blk_cell BK342.out 2).trans rfl
        have hcz23_3 : wc.cell? ⟨gb342, 3, none⟩ = some (.int .i64 a1_3) := (blk_cell BK342.out 3).trans rfl
        have hcz23_4 : wc.cell? ⟨gb342, 4, none⟩ = some (.int .i64 a1_4) := (blk_cell BK342.out 4).trans rfl
        have hfz23_0 := blk_frozen BK342.out 0; have hfz23_1 := blk_frozen BK342.out 1; have hfz23_2 := blk_frozen BK342.out 2; have hfz23_3 := blk_frozen BK342.out 3; have hfz23_4 := blk_frozen BK342.out 4; go_wp2
        go_meet
        case rel => exact ⟨_, (true), (by first | rfl | (simp; done) | (simp [*]; done)), H', ⟨by have := HJ2.out; first | omega | exact Nat.le_refl _⟩, ⟨by (with_reducible repeat (first | refine blk_drewN ?_ _ | refine blk_drew ?_ | refine blk_alloc ?_ _)); exact BK342.out⟩, ⟨by repeat (first | (with_reducible first | exact HB.out | apply below_alloc | apply pw_below_drewN | apply below_drew1 | refine below_set ?_ GE342.out) | exact HB.out)⟩⟩
       ·rw [if_neg c22] at H
        have c22b0 : decide (a1_3 < 1) = false := decide_eq_false c22
        clear c22; by_cases c24 : a1_3 > 1000
        ·rw [if_pos c24] at H
         have c24b0 : decide (1000 < a1_3) = true := decide_eq_true c24
         clear c24; have H' := Aside0.mk H; clear H; have hcz25_0 : wc.cell? ⟨gb342, 0, none⟩ = some (.int .i64 a1_0) := (blk_cell BK342.out 0).trans rfl
         have hcz25_1 : wc.cell? ⟨gb342, 1, none⟩ = some (.int .i64 a1_1) := (blk_cell BK342.out 1).trans rfl
         have hcz25_2 : wc.cell? ⟨gb342, 2, none⟩ = some (.slice A1_2 l1_2.length c1_2) := (blk_cell BK342.out 2).trans rfl
         have hcz25_3 : wc.cell? ⟨gb342, 3, none⟩ = some (.int .i64 a1_3) := (blk_cell BK342.out 3).trans rfl
         have hcz25_4 : wc.cell? ⟨gb342, 4, none⟩ = some (.int .i64 a1_4) := (blk_cell BK342.out 4).trans rfl
         have hfz25_0 := blk_frozen BK342.out 0; have hfz25_1 := blk_frozen BK342.out 1; have hfz25_2 := blk_frozen BK342.out 2; have hfz25_3 := blk_frozen BK342.out 3; have hfz25_4 := blk_frozen BK342.out 4; go_wp2
         go_meet
         case rel => exact ⟨_, (true), (by first | rfl | (simp; done) | (simp [*]; done)), H', ⟨by have := HJ2.out; first | omega | exact Nat.le_refl _⟩, ⟨by (with_reducible repeat (first | refine blk_drewN ?_ _ | refine blk_drew ?_ | refine blk_alloc ?_ _)); exact BK342.out⟩, ⟨by repeat (first | (with_reducible first | exact HB.out | apply below_alloc | apply pw_below_drewN | apply below_drew1 | refine below_set ?_ GE342.out) | exact HB.out)⟩⟩
        ·rw [if_neg c24] at H
         have c24b0 : decide (1000 < a1_3) = false := decide_eq_false c24
         clear c24; by_cases c26 : a1_4 < 1
         ·rw [if_pos c26] at H
          have c26b0 : decide (a1_4 < 1) = true := decide_eq_true c26
          clear c26; have H' := Aside0.mk H; clear H; have hcz27_0 : wc.cell? ⟨gb342, 0, none⟩ = some (.int .i64 a1_0) := (blk_cell BK342.out 0).trans rfl
          have hcz27_1 : wc.cell? ⟨gb342, 1, none⟩ = some (.int .i64 a1_1) := (blk_cell BK342.out 1).trans rfl
          have hcz27_2 : wc.cell? ⟨gb342, 2, none⟩ = some (.slice A1_2 l1_2.length c1_2) := (blk_cell BK342.out 2).trans rfl
          have hcz27_3 : wc.cell? ⟨gb342, 3, none⟩ = some (.int .i64 a1_3) := (blk_cell BK342.out 3).trans rfl
          have hcz27_4 : wc.cell? ⟨gb342, 4, none⟩ = some (.int .i64 a1_4) := (blk_cell BK342.out 4).trans rfl
          have hfz27_0 := blk_frozen BK342.out 0; have hfz27_1 := blk_frozen BK342.out 1; have hfz27_2 := blk_frozen BK342.out 2; have hfz27_3 := blk_frozen BK342.out 3; have hfz27_4 := blk_frozen BK342.out 4; go_wp2
          go_meet
          case rel => exact ⟨_, (true), (by first | rfl | (simp; done) | (simp [*]; done)), H', ⟨by have := HJ2.out; first | omega | exact Nat.le_refl _⟩, ⟨by (with_reducible repeat (first | refine blk_drewN ?_ _ | refine blk_drew ?_ | refine blk_alloc ?_ _)); exact BK342.out⟩, ⟨by repeat (first | (with_reducible first | exact HB.out | apply below_alloc | apply pw_below_drewN | apply below_drew1 | refine below_set ?_ GE342.out) | exact HB.out)⟩⟩
         ·rw [if_neg c26] at H
          have c26b0 : decide (a1_4 < 1) = false := decide_eq_false c26
          clear c26; have H' := Aside0.mk H; clear H; have hcz28_0 : wc.cell? ⟨gb342, 0, none⟩ = some (.int .i64 a1_0) := (blk_cell BK342.out 0).trans rfl
          have hcz28_1 : wc.cell? ⟨gb342, 1, none⟩ = some (.int .i64 a1_1) := (blk_cell BK342.out 1).trans rfl
          have hcz28_2 : wc.cell? ⟨gb342, 2, none⟩ = some (.slice A1_2 l1_2.length c1_2) := (blk_cell BK342.out 2).trans rfl
          have hcz28_3 : wc.cell? ⟨gb342, 3, none⟩ = some (.int .i64 a1_3) := (blk_cell BK342.out 3).trans rfl
          have hcz28_4 : wc.cell? ⟨gb342, 4, none⟩ = some (.int .i64 a1_4) := (blk_cell BK342.out 4).trans rfl
          have hfz28_0 := blk_frozen BK342.out 0; have hfz28_1 := blk_frozen BK342.out 1; have hfz28_2 := blk_frozen BK342.out 2; have hfz28_3 := blk_frozen BK342.out 3; have hfz28_4 := blk_frozen BK342.out 4; go_wp2
          go_meet
          case rel => exact ⟨_, (decide (a1_4 > 1000)), (by first | rfl | (simp; done) | (simp [*]; done)), H', ⟨by have := HJ2.out; first | omega | exact Nat.le_refl _⟩, ⟨by (with_reducible repeat (first | refine blk_drewN ?_ _ | refine blk_drew ?_ | refine blk_alloc ?_ _)); exact BK342.out⟩, ⟨by repeat (first | (with_reducible first | exact HB.out | apply below_alloc | apply pw_below_drewN | apply below_drew1 | refine below_set ?_ GE342.out) | exact HB.out)⟩⟩
      ·rw [if_neg c21] at H
       have c21b0 : (a1_1 == 2) = false := beq_eq_false_iff_ne.mpr c21
       have c21b1 : (a1_1 != 2) = true := bne_iff_ne.mpr c21
       (first | rw [c21b0] | (simp only [i64_w, i32_w]; rw [c21b0]) | skip)
       have H' := Aside0.mk H; clear H; have hcz29_0 : wc.cell? ⟨gb342, 0, none⟩ = some (.int .i64 a1_0) := (blk_cell BK342.out 0).trans rfl
       have hcz29_1 : wc.cell? ⟨gb342, 1, none⟩ = some (.int .i64 a1_1) := (blk_cell BK342.out 1).trans rfl
       have hcz29_2 : wc.cell? ⟨gb342, 2, none⟩ = some (.slice A1_2 l1_2.length c1_2) := (blk_cell BK342.out 2).trans rfl
       have hcz29_3 : wc.cell? ⟨gb342, 3, none⟩ = some (.int .i64 a1_3) := (blk_cell BK342.out 3).trans rfl
       have hcz29_4 : wc.cell? ⟨gb342, 4, none⟩ = some (.int .i64 a1_4) := (blk_cell BK342.out 4).trans rfl
       have hfz29_0 := blk_frozen BK342.out 0; have hfz29_1 := blk_frozen BK342.out 1; have hfz29_2 := blk_frozen BK342.out 2; have hfz29_3 := blk_frozen BK342.out 3; have hfz29_4 := blk_frozen BK342.out 4; go_wp2
       go_meet
       case rel => exact ⟨_, (false), (by first | rfl | (simp; done) | (simp [*]; done)), H', ⟨by have := HJ2.out; first | omega | exact Nat.le_refl _⟩, ⟨by (with_reducible repeat (first | refine blk_drewN ?_ _ | refine blk_drew ?_ | refine blk_alloc ?_ _)); exact BK342.out⟩, ⟨by repeat (first | (with_reducible first | exact HB.out | apply below_alloc | apply pw_below_drewN | apply below_drew1 | refine below_set ?_ GE342.out) | exact HB.out)⟩⟩
     case rest =>
      clear HC19
      try clear c1
      try clear c2
      try clear p2
      try clear c5
      try clear c5b0
      try clear c7
      try clear c7b0
      try clear c9
      try clear c9b0
      try clear c9b1
      try clear c11
      try clear c11b0
      try clear c11b1
      try clear c12
      try clear c12b0
      try clear c12b1
      try clear c16
      try clear c17
      try clear c17b0
      try clear c17b1
      try clear c21
      try clear c21b0
      try clear c21b1
      try clear c22
      try clear c22b0
      try clear c24
      try clear c24b0
      try clear c25
      try clear c26
      try clear c26b0
      try clear hcz10_0
      try clear hcz10_1
      try clear hcz10_2
      try clear hcz10_3
      try clear hcz10_4
      try clear hcz13_0
      try clear hcz13_1
      try clear hcz13_2
      try clear hcz13_3
      try clear hcz13_4
      try clear hcz14_0
      try clear hcz14_1
      try clear hcz14_2
      try clear hcz14_3
      try clear hcz14_4
      try clear hcz15_0
      try clear hcz15_1
      try clear hcz15_2
      try clear hcz15_3
      try clear hcz15_4
      try clear hcz18_0
      try clear hcz18_1
      try clear hcz18_2
      try clear hcz18_3
      try clear hcz18_4
      try clear hcz20_0
      try clear hcz20_1
      try clear hcz20_2
      try clear hcz20_3
      try clear hcz20_4
      try clear hcz23_0
      try clear hcz23_1
      try clear hcz23_2
      try clear hcz23_3
      try clear hcz23_4
      try clear hcz25_0
      try clear hcz25_1
      try clear hcz25_2
      try clear hcz25_3
      try clear hcz25_4
      try clear hcz27_0
      try clear hcz27_1
      try clear hcz27_2
      try clear hcz27_3
      try clear hcz27_4
      try clear hcz28_0
      try clear hcz28_1
      try clear hcz28_2
      try clear hcz28_3
      try clear hcz28_4
      try clear hcz29_0
      try clear hcz29_1
      try clear hcz29_2
      try clear hcz29_3
      try clear hcz29_4
      try clear hcz6_0
      try clear hcz6_1
      try clear hcz6_2
      try clear hcz6_3
      try clear hcz6_4
      try clear hcz8_0
      try clear hcz8_1
      try clear hcz8_2
      try clear hcz8_3
      try clear hcz8_4
      try clear hfz10_0
      try clear hfz10_1
      try clear hfz10_2
      try clear hfz10_3
      try clear hfz10_4
      try clear hfz13_0
      try clear hfz13_1
      try clear hfz13_2
      try clear hfz13_3
      try clear hfz13_4
      try clear hfz14_0
      try clear hfz14_1
      try clear hfz14_2
      try clear hfz14_3
      try clear hfz14_4
      try clear hfz15_0
      try clear hfz15_1
      try clear hfz15_2
      try clear hfz15_3
      try clear hfz15_4
      try clear hfz18_0
      try clear hfz18_1
      try clear hfz18_2
      try clear hfz18_3
      try clear hfz18_4
      try clear hfz20_0
      try clear hfz20_1
      try clear hfz20_2
      try clear hfz20_3
      try clear hfz20_4
      try clear hfz23_0
      try clear hfz23_1
      try clear hfz23_2
      try clear hfz23_3
      try clear hfz23_4
      try clear hfz25_0
      try clear hfz25_1
      try clear hfz25_2
      try clear hfz25_3
      try clear hfz25_4
      try clear hfz27_0
      try clear hfz27_1
      try clear hfz27_2
      try clear hfz27_3
      try clear hfz27_4
      try clear hfz28_0
      try clear hfz28_1
      try clear hfz28_2
      try clear hfz28_3
      try clear hfz28_4
      try clear hfz29_0
      try clear hfz29_1
      try clear hfz29_2
      try clear hfz29_3
      try clear hfz29_4
      try clear hfz6_0
      try clear hfz6_1
      try clear hfz6_2
      try clear hfz6_3
      try clear hfz6_4
      try clear hfz8_0
      try clear hfz8_1
      try clear hfz8_2
      try clear hfz8_3
      try clear hfz8_4
      try clear p2
      obtain ⟨kq, x45_18, rfl, HA, HJ18, BK342, HB⟩ := hcut; cases kq with
      | zero => exact absurd HA.out (by simp [repriseref23_Fault.j1])
      | succ kj18 =>
       have H := HA.out; clear HA; simp only [repriseref23_Fault.j1] at H
       by_cases c30 : x45_18 = true
       ·subst c30; have H1 : (some 26) = some r := by rw [if_pos rfl] at H; exact H
        clear H; have H := H1; clear H1; obtain rfl := Option.some.inj H
        go_wp2
        go_ret
        exact ⟨by first | rfl | (simp [errW_none, errW_some] <;> rfl) | (simp [*, errW_none, errW_some] <;> rfl), by repeat (first | (with_reducible first | exact HB.out | apply below_alloc | apply pw_below_drewN | apply below_drew1 | refine below_set ?_ GE342.out) | exact HB.out)⟩
       ·replace c30 := Bool.eq_false_iff.mpr c30; subst c30; have H1 : (if a0 < 0 then (some 24) else (if a0 > 4611686018427387904 then (some 24) else (if a1_0 < a0 then (some 24) else (if a1_0 > 4611686018427387904 then (some 24) else (some 0))))) = some r := by rw [if_neg (show ¬ (false = true) by decide)] at H; exact H
        clear H; have H := H1; clear H1; by_cases c31 : a0 < 0
        ·rw [if_pos c31] at H
         have c31b0 : decide (a0 < 0) = true := decide_eq_true c31
         clear c31; obtain rfl := Option.some.inj H
         go_wp2
         go_ret
         exact ⟨by first | rfl | (simp [errW_none, errW_some] <;> rfl) | (simp [*, errW_none, errW_some] <;> rfl), by repeat (first | (with_reducible first | exact HB.out | apply below_alloc | apply pw_below_drewN | apply below_drew1 | refine below_set ?_ GE342.out) | exact HB.out)⟩
        ·rw [if_neg c31] at H
         have c31b0 : decide (a0 < 0) = false := decide_eq_false c31
         clear c31; by_cases c32 : a0 > 4611686018427387904
         ·rw [if_pos c32] at H
          have c32b0 : decide (4611686018427387904 < a0) = true := decide_eq_true c32
          clear c32; obtain rfl := Option.some.inj H
          go_wp2
          go_ret
          exact ⟨by first | rfl | (simp [errW_none, errW_some] <;> rfl) | (simp [*, errW_none, errW_some] <;> rfl), by repeat (first | (with_reducible first | exact HB.out | apply below_alloc | apply pw_below_drewN | apply below_drew1 | refine below_set ?_ GE342.out) | exact HB.out)⟩
         ·rw [if_neg c32] at H
          have c32b0 : decide (4611686018427387904 < a0) = false := decide_eq_false c32
          clear c32; by_cases c33 : a1_0 < a0
          ·rw [if_pos c33] at H
           have c33b0 : decide (a1_0 < a0) = true := decide_eq_true c33
           clear c33; obtain rfl := Option.some.inj H
           have hcz34_0 : wc.cell? ⟨gb342, 0, none⟩ = some (.int .i64 a1_0) := (blk_cell BK342.out 0).trans rfl
           have hcz34_1 : wc.cell? ⟨gb342, 1, none⟩ = some (.int .i64 a1_1) := (blk_cell BK342.out 1).trans rfl
           have hcz34_2 : wc.cell? ⟨gb342, 2, none⟩ = some (.slice A1_2 l1_2.length c1_2) := (blk_cell BK342.out 2).trans rfl
           have hcz34_3 : wc.cell? ⟨gb342, 3, none⟩ = some (.int .i64 a1_3) := (blk_cell BK342.out 3).trans rfl
           have hcz34_4 : wc.cell? ⟨gb342, 4, none⟩ = some (.int .i64 a1_4) := (blk_cell BK342.out 4).trans rfl
           have hfz34_0 := blk_frozen BK342.out 0; have hfz34_1 := blk_frozen BK342.out 1; have hfz34_2 := blk_frozen BK342.out 2; have hfz34_3 := blk_frozen BK342.out 3; have hfz34_4 := blk_frozen BK342.out 4; go_wp2
           go_ret
           exact ⟨by first | rfl | (simp [errW_none, errW_some] <;> rfl) | (simp [*, errW_none, errW_some] <;> rfl), by repeat (first | (with_reducible first | exact HB.out | apply below_alloc | apply pw_below_drewN | apply below_drew1 | refine below_set ?_ GE342.out) | exact HB.out)⟩
          ·rw [if_neg c33] at H
           have c33b0 : decide (a1_0 < a0) = false := decide_eq_false c33
           clear c33; by_cases c35 : a1_0 > 4611686018427387904
           ·rw [if_pos c35] at H
            have c35b0 : decide (4611686018427387904 < a1_0) = true := decide_eq_true c35
            clear c35; obtain rfl := Option.some.inj H
            have hcz36_0 : wc.cell? ⟨gb342, 0, none⟩ = some (.int .i64 a1_0) := (blk_cell BK342.out 0).trans rfl
            have hcz36_1 : wc.cell? ⟨gb342, 1, none⟩ = some (.int .i64 a1_1) := (blk_cell BK342.out 1).trans rfl
            have hcz36_2 : wc.cell? ⟨gb342, 2, none⟩ = some (.slice A1_2 l1_2.length c1_2) := (blk_cell BK342.out 2).trans rfl
            have hcz36_3 : wc.cell? ⟨gb342, 3, none⟩ = some (.int .i64 a1_3) := (blk_cell BK342.out 3).trans rfl
            have hcz36_4 : wc.cell? ⟨gb342, 4, none⟩ = some (.int .i64 a1_4) := (blk_cell BK342.out 4).trans rfl
            have hfz36_0 := blk_frozen BK342.out 0; have hfz36_1 := blk_frozen BK342.out 1; have hfz36_2 := blk_frozen BK342.out 2; have hfz36_3 := blk_frozen BK342.out 3; have hfz36_4 := blk_frozen BK342.out 4; go_wp2
            go_ret
            exact ⟨by first | rfl | (simp [errW_none, errW_some] <;> rfl) | (simp [*, errW_none, errW_some] <;> rfl), by repeat (first | (with_reducible first | exact HB.out | apply below_alloc | apply pw_below_drewN | apply below_drew1 | refine below_set ?_ GE342.out) | exact HB.out)⟩
           ·rw [if_neg c35] at H
            have c35b0 : decide (4611686018427387904 < a1_0) = false := decide_eq_false c35
            clear c35; obtain rfl := Option.some.inj H
            have hcz37_0 : wc.cell? ⟨gb342, 0, none⟩ = some (.int .i64 a1_0) := (blk_cell BK342.out 0).trans rfl
            have hcz37_1 : wc.cell? ⟨gb342, 1, none⟩ = some (.int .i64 a1_1) := (blk_cell BK342.out 1).trans rfl
            have hcz37_2 : wc.cell? ⟨gb342, 2, none⟩ = some (.slice A1_2 l1_2.length c1_2) := (blk_cell BK342.out 2).trans rfl
            have hcz37_3 : wc.cell? ⟨gb342, 3, none⟩ = some (.int .i64 a1_3) := (blk_cell BK342.out 3).trans rfl
            have hcz37_4 : wc.cell? ⟨gb342, 4, none⟩ = some (.int .i64 a1_4) := (blk_cell BK342.out 4).trans rfl
            have hfz37_0 := blk_frozen BK342.out 0; have hfz37_1 := blk_frozen BK342.out 1; have hfz37_2 := blk_frozen BK342.out 2; have hfz37_3 := blk_frozen BK342.out 3; have hfz37_4 := blk_frozen BK342.out 4; go_wp2
            go_ret
            exact ⟨by first | rfl | (simp [errW_none, errW_some] <;> rfl) | (simp [*, errW_none, errW_some] <;> rfl), by repeat (first | (with_reducible first | exact HB.out | apply below_alloc | apply pw_below_drewN | apply below_drew1 | refine below_set ?_ GE342.out) | exact HB.out)⟩
/-! ### repriseref1_Put: function 34 -/
def repriseref1_Put.l0 : Nat → Int → List Int → Option (List Int)
 | 0, _, _ => none
 | k + 1, x0, x3 => if x0 ≥ 128 then (if x3.length < 140737488355328 then (repriseref1_Put.l0 k (x0 / 128) (x3 ++ [Go.bits .or .u8 ((x0) % 256) 128])) else (none)) else (if x3.length < 140737488355328 then (some (x3 ++ [(x0) % 256])) else (none))
def repriseref1_Put.f (k : Nat) (a0 : Int) : Option (List Int) := repriseref1_Put.l0 k a0 ([] : List Int)
theorem repriseref1_Put.mono_l : ∀ k, (∀ y0 y1, LeO (repriseref1_Put.l0 k y0 y1) (repriseref1_Put.l0 (k + 1) y0 y1))
 | 0 => fun _ _ r h => by simp [repriseref1_Put.l0] at h
 | k + 1 => by
  have ih0 := repriseref1_Put.mono_l k
  ·intro y0 y1
   unfold repriseref1_Put.l0
   repeat' first
   | (with_reducible exact ih0 _ _)
   | (with_reducible exact LeO.refl _)
   | (with_reducible exact LeO.none _)
   | (with_reducible refine LeO.ite ?_ ?_)
   | (with_reducible refine LeO.bind ?_ (fun _ => ?_))
   | exact ih0 _ _
   | exact LeO.none _
   | refine LeO.ite ?_ ?_
   | refine LeO.bind ?_ (fun _ => ?_)
theorem repriseref1_Put.mono : ∀ a0 k, LeO (repriseref1_Put.f k a0) (repriseref1_Put.f (k + 1) a0) := by
 intro a0 k
 have ih0 := repriseref1_Put.mono_l k; unfold repriseref1_Put.f
 repeat' first
  | (with_reducible exact ih0 _ _)
  | (with_reducible exact LeO.refl _)
  | (with_reducible exact LeO.none _)
  | (with_reducible refine LeO.ite ?_ ?_)
  | (with_reducible refine LeO.bind ?_ (fun _ => ?_))
  | exact ih0 _ _
  | exact LeO.none _
  | refine LeO.ite ?_ ?_
  | refine LeO.bind ?_ (fun _ => ?_)
set_option maxHeartbeats 8000000 in
set_option maxRecDepth 100000 in
theorem repriseref1_Put.calls (k : Nat) (a0 : Int) (r : List Int) (w : World) (h : repriseref1_Put.f k a0 = some r) :
 Calls Try.prog 34 #[.int .u64 a0] w fun e w' => ∃ v0_ : Value, e = .returned (v0_) ∧ Kd.R (Kd.int .u8) 5 w' w.heap.size (fun _ => True) v0_ r ∧ Below w.heap.size w w' := by
 have HB := Aside0.mk (Below.refl w.heap.size w)
 have H : (repriseref1_Put.l0 k a0 ([] : List Int)) = some r := h
 clear h; have H' := Aside0.mk H; clear H; go_enter Try.func34, Try.ntmps34
 go_wp2
 go_loopg [0, 3] k (fun kq v0 v3 w' => ∃ (x0_1 : Int) (x3_1 : List Int), v0 = .int .u64 x0_1 ∧ Aside0 (repriseref1_Put.l0 kq x0_1 x3_1 = some r) ∧ Aside0 (kq ≤ k) ∧ Aside0 (Kd.R (Kd.int .u8) 5 w' w.heap.size (fun _ => True) v3 x3_1) ∧ Aside0 (Below w.heap.size w w'))
 case atStart => exact ⟨(a0), (([] : List Int)), (by first | rfl | (simp; done) | (simp [*]; done)), H', ⟨Nat.le_refl _⟩, ⟨by first | exact Kd.R_nil _ _ _ _ _ | exact Kd.N_nil _ _ _ _ _ | exact Kd.V_nil _ _ _ _ _ | exact Kd.Q_nil _ _ _ _ _ | exact Kd.S_nil _ _ _ _ _⟩, ⟨by repeat (first | (with_reducible first | exact HB.out | apply below_alloc | apply pw_below_drewN | apply below_drew1) | exact HB.out)⟩⟩
 case round =>
  clear H'; obtain ⟨x0_1, x3_1, rfl, HA, HK1, HO_3, HB⟩ := hrel; cases gk with
  | zero => exact absurd HA.out (by simp [repriseref1_Put.l0])
  | succ k1 =>
   have H := HA.out; clear HA; simp only [repriseref1_Put.l0] at H
   by_cases c2 : x0_1 ≥ 128
   ·rw [if_pos c2] at H
    have c2b0 : decide (128 ≤ x0_1) = true := decide_eq_true c2
    clear c2; by_cases c3 : x3_1.length < 140737488355328
    ·rw [if_pos c3] at H
     have LMc3 := Aside0.mk c3; clear c3; obtain ⟨y343, hy343⟩ : ∃ y_ : List Int, y_ = (x3_1 ++ [Go.bits .or .u8 ((x0_1) % 256) 128]) := ⟨_, rfl⟩
     replace H : (repriseref1_Put.l0 k1 (x0_1 / 128) y343) = some r := by first | (rw [hy343]; with_reducible exact H) | (have H2_ := (Option.bind_some _ _).symm.trans H; rw [hy343]; with_reducible exact H2_) | (have H2_ := (Option.bind_some _ _).symm.trans H; with_reducible exact H2_) | with_reducible exact H | (rw [hy343]; exact H) | exact H
     have Ny343 := Aside0.mk hy343; clear hy343; have H' := Aside0.mk H; clear H; go_wp2_with (first | ((with_reducible refine gate_builtin (b := .append) (xs := #[.tmp 6, .tmp 10]) rfl ?_); at_builtin; refine Kd.R_append (Kd.int .u8) (w0 := w) w.heap.size rfl (.tmp 6) (.tmp 10) 22 5 (.int .u8 0) 1 rfl Try.underlying22 info5 rfl (by decide) (by omega) u3 x3_1 (Go.bits .or .u8 ((x0_1) % 256) 128) [.int .u8 (Go.bits .or .u8 ((x0_1) % 256) 128)] (fun _ => True) (fun _ => False) rfl rfl ?aP (fun _ hk => hk.elim) ?aF ?aO ?aB ?aS ?aL ?_; (case aP => exact rfl); (case aB => exact (by repeat (first | (with_reducible first | exact HB.out | apply below_alloc | apply pw_below_drewN | apply below_drew1) | exact HB.out))); (case aF => exact (fun _ _ => trivial)); (case aO => exact (by (with_reducible repeat (first | apply Kd.R_alloc | apply Kd.R_drewN | apply Kd.R_drew)); exact HO_3.out)); (case aS => exact (below_size (by repeat (first | (with_reducible first | exact HB.out | apply below_alloc | apply pw_below_drewN | apply below_drew1) | exact HB.out)))); (case aL => have := LMc3.out; omega); intro v344 w4 ho hb hg hat; rw [← Ny343.out] at ho; have n0_ := Aside0.mk (hb); have n1_ := Aside0.mk (ho); clear HB; clear HO_3; have HB := n0_; have HO345 := n1_; clear n0_ n1_; clear ho hb hg hat))
     go_roundg k1
     case measure => have := HK1.out; omega
     case rel => exact ⟨(x0_1 / 128), (y343), (by first | rfl | (simp; done) | (simp [*]; done)), H', ⟨by have := HK1.out; omega⟩, ⟨by (with_reducible repeat (first | apply Kd.R_alloc | apply Kd.R_drewN | apply Kd.R_drew)); exact HO345.out⟩, ⟨by repeat (first | (with_reducible first | exact HB.out | apply below_alloc | apply pw_below_drewN | apply below_drew1) | exact HB.out)⟩⟩
    ·rw [if_neg c3] at H
     exact absurd H (by simp)
   ·rw [if_neg c2] at H
    have c2b0 : decide (128 ≤ x0_1) = false := decide_eq_false c2
    clear c2; by_cases c5 : x3_1.length < 140737488355328
    ·rw [if_pos c5] at H
     have LMc5 := Aside0.mk c5; clear c5; obtain ⟨y346, hy346⟩ : ∃ y_ : List Int, y_ = (x3_1 ++ [(x0_1) % 256]) := ⟨_, rfl⟩
     replace H : (some y346) = some r := by first | (rw [hy346]; with_reducible exact H) | (have H2_ := (Option.bind_some _ _).symm.trans H; rw [hy346]; with_reducible exact H2_) | (have H2_ := (Option.bind_some _ _).symm.trans H; with_reducible exact H2_) | with_reducible exact H | (rw [hy346]; exact H) | exact H
     have Ny346 := Aside0.mk hy346; clear hy346; obtain rfl := Option.some.inj H
     go_wp2_with (first | ((with_reducible refine gate_builtin (b := .append) (xs := #[.tmp 14, .tmp 17]) rfl ?_); at_builtin; refine Kd.R_append (Kd.int .u8) (w0 := w) w.heap.size rfl (.tmp 14) (.tmp 17) 22 5 (.int .u8 0) 1 rfl Try.underlying22 info5 rfl (by decide) (by omega) u3 x3_1 ((x0_1) % 256) [.int .u8 ((x0_1) % 256)] (fun _ => True) (fun _ => False) rfl rfl ?aP (fun _ hk => hk.elim) ?aF ?aO ?aB ?aS ?aL ?_; (case aP => exact rfl); (case aB => exact (by repeat (first | (with_reducible first | exact HB.out | apply below_alloc | apply pw_below_drewN | apply below_drew1) | exact HB.out))); (case aF => exact (fun _ _ => trivial)); (case aO => exact (by (with_reducible repeat (first | apply Kd.R_alloc | apply Kd.R_drewN | apply Kd.R_drew)); exact HO_3.out)); (case aS => exact (below_size (by repeat (first | (with_reducible first | exact HB.out | apply below_alloc | apply pw_below_drewN | apply below_drew1) | exact HB.out)))); (case aL => have := LMc5.out; omega); intro v347 w6 ho hb hg hat; rw [← Ny346.out] at ho; have n0_ := Aside0.mk (hb); have n1_ := Aside0.mk (ho); clear HB; clear HO_3; have HB := n0_; have HO348 := n1_; clear n0_ n1_; clear ho hb hg hat))
     go_ret
     exact ⟨_, by first | rfl | (simp [errW_none, errW_some] <;> rfl) | (simp [*, errW_none, errW_some] <;> rfl), by (with_reducible repeat (first | apply Kd.R_alloc | apply Kd.R_drewN | apply Kd.R_drew)); exact HO348.out, by repeat (first | (with_reducible first | exact HB.out | apply below_alloc | apply pw_below_drewN | apply below_drew1) | exact HB.out)⟩
    ·rw [if_neg c5] at H
     exact absurd H (by simp)
/-! ### repriseref1_PutBytes: function 35 -/
def repriseref1_PutBytes.f (k : Nat) (l0 : List Int) : Option (List Int) := (repriseref1_Put.f k (IntKind.u64.wrap ((l0.length : Int)))).bind fun t349 => (if t349.length + l0.length < 140737488355328 then (some (t349 ++ l0)) else (none))
theorem repriseref1_PutBytes.mono : ∀ a0 k, LeO (repriseref1_PutBytes.f k a0) (repriseref1_PutBytes.f (k + 1) a0) := by
 intro a0 k
 unfold repriseref1_PutBytes.f
 repeat' first
  | (with_reducible exact repriseref1_Put.mono _ _)
  | (with_reducible exact LeO.refl _)
  | (with_reducible exact LeO.none _)
  | (with_reducible refine LeO.ite ?_ ?_)
  | (with_reducible refine LeO.bind ?_ (fun _ => ?_))
  | exact repriseref1_Put.mono _ _
  | exact LeO.none _
  | refine LeO.ite ?_ ?_
  | refine LeO.bind ?_ (fun _ => ?_)
set_option maxHeartbeats 8000000 in
set_option maxRecDepth 100000 in
theorem repriseref1_PutBytes.calls (k : Nat) (A0 : Option Addr) (c0 : Nat) (l0 : List Int) (r : List Int) (w : World) (hr0 : Kd.C (Kd.int .u8) w A0 l0.length l0) (hc0 : l0.length ≤ c0) (h : repriseref1_PutBytes.f k l0 = some r) :
 Calls Try.prog 35 #[.slice A0 l0.length c0] w fun e w' => ∃ v0_ : Value, e = .returned (v0_) ∧ Kd.R (Kd.int .u8) 5 w' w.heap.size (fun _ => True) v0_ r ∧ Below w.heap.size w w' := by
 have HR0 := Aside0.mk hr0; have HC0 := Aside0.mk hc0; clear hr0 hc0; have HB := Aside0.mk (Below.refl w.heap.size w)
 have H : ((repriseref1_Put.f k (IntKind.u64.wrap ((l0.length : Int)))).bind fun t349 => (if t349.length + l0.length < 140737488355328 then (some (t349 ++ l0)) else (none))) = some r := h
 clear h; replace H := Option.bind_eq_some_iff.mp H; obtain ⟨t349, A20, H⟩ := H; replace H : (if t349.length + l0.length < 140737488355328 then (some (t349 ++ l0)) else (none)) = some r := H
 have A2 := Aside0.mk A20; clear A20; by_cases c3 : t349.length + l0.length < 140737488355328
 ·rw [if_pos c3] at H
  have LMc3 := Aside0.mk c3; clear c3; obtain ⟨y352, hy352⟩ : ∃ y_ : List Int, y_ = (t349 ++ l0) := ⟨_, rfl⟩
  replace H : (some y352) = some r := by first | (rw [hy352]; with_reducible exact H) | (have H2_ := (Option.bind_some _ _).symm.trans H; rw [hy352]; with_reducible exact H2_) | (have H2_ := (Option.bind_some _ _).symm.trans H; with_reducible exact H2_) | with_reducible exact H | (rw [hy352]; exact H) | exact H
  have Ny352 := Aside0.mk hy352; clear hy352; obtain rfl := Option.some.inj H
  go_enter Try.func35, Try.ntmps35
  go_wp2_with (first | ((with_reducible refine gate_callee (f := 34) rfl ?_); refine goesL_ (some 6) rfl rfl Try.func34 (by kernel_rfl) rfl #[.int .u64 (IntKind.u64.wrap ((l0.length : Int)))] rfl (by (try simp only [List.map_toArray, List.map_cons, List.map_nil]); first | done | rfl | (simp only [List.length_drop, List.length_take]; rfl)) ?_; (with_reducible refine (repriseref1_Put.calls k (IntKind.u64.wrap ((l0.length : Int))) t349 _ A2.out).mono ?_); rintro e w4 ⟨v350, rfl, ho0, hb⟩; refine ⟨_, rfl, ?_⟩; have n0_ := Aside0.mk (Kd.R_lower ho0 (below_size (by repeat (first | (with_reducible first | exact HB.out | apply below_alloc | apply pw_below_drewN | apply below_drew1) | exact HB.out)))); have n1_ := Aside0.mk (below_step (by repeat (first | (with_reducible first | exact HB.out | apply below_alloc | apply pw_below_drewN | apply below_drew1) | exact HB.out)) hb); clear HB; have HO351 := n0_; have HB := n1_; clear n0_ n1_; (try clear hb); (try clear hb2); (try clear hk); (try clear hi); (try clear ho0)) | ((with_reducible refine gate_builtin (b := .append) (xs := #[.tmp 6, .tmp 7]) rfl ?_); at_builtin; refine Kd.R_append_rows (Kd.int .u8) (w0 := w) w.heap.size rfl (.tmp 6) (.tmp 7) 22 5 (.int .u8 0) 1 rfl Try.underlying22 info5 rfl (by decide) (by omega) v350 t349 l0 _ _ _ (fun _ => True) (fun _ => False) rfl rfl ?aO ?aR (fun _ _ h => h) (fun _ h => h.elim) ?aF ?aB ?aS ?aL ?_; (case aR => repeat (first | exact (Kd.C_below HR0.out HB.out) | (with_reducible refine Kd.C_alloc ?_ _) | (with_reducible refine Kd.C_drewN ?_ _) | (with_reducible refine Kd.C_drew ?_))); (case aB => exact (by repeat (first | (with_reducible first | exact HB.out | apply below_alloc | apply pw_below_drewN | apply below_drew1) | exact HB.out))); (case aF => exact (fun _ _ => trivial)); (case aO => exact (by (with_reducible repeat (first | apply Kd.R_alloc | apply Kd.R_drewN | apply Kd.R_drew)); exact HO351.out)); (case aS => exact (below_size (by repeat (first | (with_reducible first | exact HB.out | apply below_alloc | apply pw_below_drewN | apply below_drew1) | exact HB.out)))); (case aL => have := LMc3.out; omega); intro v353 w5 ho hb hg hat; rw [← Ny352.out] at ho; have n0_ := Aside0.mk (hb); have n1_ := Aside0.mk (ho); clear HB; clear HO351; have HB := n0_; have HO354 := n1_; clear n0_ n1_; clear ho hb hg hat))
  go_ret
  exact ⟨_, by first | rfl | (simp [errW_none, errW_some] <;> rfl) | (simp [*, errW_none, errW_some] <;> rfl), by (with_reducible repeat (first | apply Kd.R_alloc | apply Kd.R_drewN | apply Kd.R_drew)); exact HO354.out, by repeat (first | (with_reducible first | exact HB.out | apply below_alloc | apply pw_below_drewN | apply below_drew1) | exact HB.out)⟩
 ·rw [if_neg c3] at H
  exact absurd H (by simp)
end Go.Proofs.Ytmaefdeigienjaa.QEventReads
