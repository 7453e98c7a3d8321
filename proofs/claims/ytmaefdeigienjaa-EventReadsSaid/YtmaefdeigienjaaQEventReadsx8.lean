/- Lean functions for the Go functions that the law reaches, and proofs that each call comes to just what its Lean function tells; no condition. (Written by a program of this session.) -/
import Derived.Test.YtmaefdeigienjaaQEventReadsx0
import Derived.Test.YtmaefdeigienjaaQEventReadsx7
namespace Go.Proofs.Ytmaefdeigienjaa.QEventReads
open Go.RowKit Go.Proofs.YtmaefdeigienjaaW.PrintWords Go.Proofs.YtmaefdeigienjaaW.PrintLast Go.Proofs.YtmaefdeigienjaaW.PrintMore
attribute [local go_sem] max2_int min2_int max_two min_two max_three min_three max_four min_four   -- for this text's walks alone
set_option linter.unusedVariables false
set_option linter.unusedSimpArgs false
/-! ### repriseseat_Events: function 12 -/
def repriseseat_Events.l0 : Nat → List Int → List Int → List (S30) → Int → Int → Option ((List (S30)))
 | 0, _, _, _, _, _ => none
 | k + 1, x0, x1, x5, x6, x7 => if x7 < (x0.length : Int) then (if 0 ≤ x7 then (if (((Int.tdiv (rd x0 x7) 3) % 256) % 3) = 0 then (if x7 ≤ (wrap64 (x7 + 1)) then (if (wrap64 (x7 + 1)) ≤ (x0.length : Int) then ((repriseseat_Keys.f k ((x0.take ((wrap64 (x7 + 1)) : Int).toNat).drop (x7 : Int).toNat)).bind fun t304 => ((some (([(⟨wrap64 (x6 + (wrap64 (Int.tmod (rd x0 x7) 3))), ((Int.tdiv (rd x0 x7) 3) % 256) % 3, t304, 0, 0⟩ : S30)] : List (S30)) : List (S30))).bind fun y307 => (if x5.length + y307.length < 2513169434916 then (repriseseat_Events.l0 k x0 x1 (x5 ++ y307) (wrap64 (x6 + (wrap64 (Int.tmod (rd x0 x7) 3)))) (wrap64 (x7 + 1))) else (none)))) else (none)) else (none)) else (if (((Int.tdiv (rd x0 x7) 3) % 256) % 3) = 1 then (if 0 ≤ (mn (x1.length : Int) (wrap64 (Int.tmod (rd x0 x7) 4))) then (if (mn (x1.length : Int) (wrap64 (Int.tmod (rd x0 x7) 4))) ≤ (x1.length : Int) then (if ([] : List Int).length + (x1.take ((mn (x1.length : Int) (wrap64 (Int.tmod (rd x0 x7) 4))) : Int).toNat).length < 140737488355328 then ((some (([] : List Int) ++ (x1.take ((mn (x1.length : Int) (wrap64 (Int.tmod (rd x0 x7) 4))) : Int).toNat) : List Int)).bind fun y315 => ((some (([rd x0 x7] : List Int) : List Int)).bind fun y319 => (if y315.length + y319.length < 140737488355328 then ((repriseseat_Bytes.f k (y315 ++ y319)).bind fun t325 => ((some (([(⟨wrap64 (x6 + (wrap64 (Int.tmod (rd x0 x7) 3))), ((Int.tdiv (rd x0 x7) 3) % 256) % 3, t325, 0, 0⟩ : S30)] : List (S30)) : List (S30))).bind fun y328 => (if x5.length + y328.length < 2513169434916 then (repriseseat_Events.l0 k x0 x1 (x5 ++ y328) (wrap64 (x6 + (wrap64 (Int.tmod (rd x0 x7) 3)))) (wrap64 (x7 + 1))) else (none)))) else (none)))) else (none)) else (none)) else (none)) else ((some (([(⟨wrap64 (x6 + (wrap64 (Int.tmod (rd x0 x7) 3))), ((Int.tdiv (rd x0 x7) 3) % 256) % 3, ([] : List Int), (((Int.tdiv (rd x0 x7) 9) % 256) % 6) + 1, (((Int.tdiv (rd x0 x7) 5) % 256) % 9) + 1⟩ : S30)] : List (S30)) : List (S30))).bind fun y336 => (if x5.length + y336.length < 2513169434916 then (repriseseat_Events.l0 k x0 x1 (x5 ++ y336) (wrap64 (x6 + (wrap64 (Int.tmod (rd x0 x7) 3)))) (wrap64 (x7 + 1))) else (none))))) else (none)) else (some x5)
def repriseseat_Events.f (k : Nat) (l0 : List Int) (l1 : List Int) : Option ((List (S30))) := repriseseat_Events.l0 k l0 l1 ([] : List (S30)) 0 0
theorem repriseseat_Events.mono_l : ∀ k, (∀ y0 y1 y2 y3 y4, LeO (repriseseat_Events.l0 k y0 y1 y2 y3 y4) (repriseseat_Events.l0 (k + 1) y0 y1 y2 y3 y4))
 | 0 => fun _ _ _ _ _ r h => by simp [repriseseat_Events.l0] at h
 | k + 1 => by
  have ih0 := repriseseat_Events.mono_l k
  ·intro y0 y1 y2 y3 y4
   unfold repriseseat_Events.l0
   repeat' first
   | (with_reducible exact ih0 _ _ _ _ _)
   | (with_reducible exact repriseseat_Bytes.mono _ _)
   | (with_reducible exact repriseseat_Keys.mono _ _)
   | (with_reducible exact LeO.refl _)
   | (with_reducible exact LeO.none _)
   | (with_reducible refine LeO.ite ?_ ?_)
   | (with_reducible refine LeO.bind ?_ (fun _ => ?_))
   | exact ih0 _ _ _ _ _
   | exact repriseseat_Bytes.mono _ _
   | exact repriseseat_Keys.mono _ _
   | exact LeO.none _
   | refine LeO.ite ?_ ?_
   | refine LeO.bind ?_ (fun _ => ?_)
theorem repriseseat_Events.mono : ∀ a0 a1 k, LeO (repriseseat_Events.f k a0 a1) (repriseseat_Events.f (k + 1) a0 a1) := by
 intro a0 a1 k
 have ih0 := repriseseat_Events.mono_l k; unfold repriseseat_Events.f
 repeat' first
  | (with_reducible exact ih0 _ _ _ _ _)
  | (with_reducible exact repriseseat_Bytes.mono _ _)
  | (with_reducible exact repriseseat_Keys.mono _ _)
  | (with_reducible exact LeO.refl _)
  | (with_reducible exact LeO.none _)
  | (with_reducible refine LeO.ite ?_ ?_)
  | (with_reducible refine LeO.bind ?_ (fun _ => ?_))
  | exact ih0 _ _ _ _ _
  | exact repriseseat_Bytes.mono _ _
  | exact repriseseat_Keys.mono _ _
  | exact LeO.none _
  | refine LeO.ite ?_ ?_
  | refine LeO.bind ?_ (fun _ => ?_)
def repriseseat_Events.T9 : Bool × List (List Nat × List Nat) := (true, [([], []), ([], []), ([0, 1], [0, 1]), ([2], [2]), ([3], [3]), ([4], [4]), ([5], [5]), ([6], [6]), ([], []), ([], []), ([8, 9], [8, 9]), ([10], [10]), ([11], [11]), ([12], [12]), ([13], [13]), ([14], [14]), ([0, 1, 2, 3, 4, 5, 6, 7], []), ([16, 7, 0, 1, 2, 3, 4, 5, 6, 7], [7, 16]), ([0, 1, 2, 3, 4, 5, 6, 7, 8, 9, 10, 11, 12, 13, 14, 15, 16, 17], []), ([18, 15, 17, 0, 1, 2, 3, 4, 5, 6, 7, 8, 9, 10, 11, 12, 13, 14, 15, 16, 17], [15, 18])])
def repriseseat_Events.B9 : List Nat := [0, 0, 3, 7, 15, 31, 63, 127, 0, 0, 768, 1792, 3840, 7936, 16128, 32512, 255, 65791, 262143, 524287]
theorem repriseseat_Events.tab9 : rtab .any (opsOf Try.f12 9) = repriseseat_Events.T9 := by kernel_rfl
theorem repriseseat_Events.bits9 : waitsOk repriseseat_Events.T9.2 repriseseat_Events.B9 = true := by kernel_rfl
def repriseseat_Events.T13 : Bool × List (List Nat × List Nat) := (true, [([], []), ([], []), ([1], [1]), ([], []), ([], []), ([3, 4], [3, 4]), ([5], [5]), ([6], [6]), ([7], [7]), ([2, 8], [2, 8]), ([0, 9], [0, 9]), ([10], [10]), ([], []), ([], []), ([12, 13], [12, 13]), ([14], [14]), ([15], [15]), ([11, 16, 11], [11, 16]), ([17, 17], [17]), ([0, 1, 2, 3, 4, 5, 6, 7, 8, 9, 10, 11, 12, 13, 14, 15, 16, 17, 18], []), ([19, 18, 18, 0, 1, 2, 3, 4, 5, 6, 7, 8, 9, 10, 11, 12, 13, 14, 15, 16, 17, 18], [18, 19])])
def repriseseat_Events.B13 : List Nat := [0, 0, 2, 0, 0, 24, 56, 120, 248, 510, 1023, 2047, 0, 0, 12288, 28672, 61440, 131071, 262143, 524287, 1048575]
theorem repriseseat_Events.tab13 : rtab .any (opsOf Try.f12 13) = repriseseat_Events.T13 := by kernel_rfl
theorem repriseseat_Events.bits13 : waitsOk repriseseat_Events.T13.2 repriseseat_Events.B13 = true := by kernel_rfl
set_option maxHeartbeats 8000000 in
set_option maxRecDepth 100000 in
theorem repriseseat_Events.calls (k : Nat) (A0 : Option Addr) (c0 : Nat) (l0 : List Int) (A1 : Option Addr) (c1 : Nat) (l1 : List Int) (r : List (S30)) (w : World) (hr0 : Kd.C (Kd.int .u8) w A0 l0.length l0) (hc0 : l0.length ≤ c0) (hr1 : Kd.C (Kd.int .u8) w A1 l1.length l1) (hc1 : l1.length ≤ c1) (h : repriseseat_Events.f k l0 l1 = some r) :
 Calls Try.prog 12 #[.slice A0 l0.length c0, .slice A1 l1.length c1] w fun e w' => ∃ v0_ : Value, e = .returned (v0_) ∧ Kd.N k30 30 w' w.heap.size (fun k_ => (w.heap.size ≤ k_)) v0_ r ∧ Below w.heap.size w w' := by
 have hu30 := Try.underlying30; have HR0 := Aside0.mk hr0; have HC0 := Aside0.mk hc0; clear hr0 hc0; have HR1 := Aside0.mk hr1; have HC1 := Aside0.mk hc1; clear hr1 hc1; have HB := Aside0.mk (Below.refl w.heap.size w)
 have H : (repriseseat_Events.l0 k l0 l1 ([] : List (S30)) 0 0) = some r := h
 clear h; have H' := Aside0.mk H; clear H; go_enter Try.func12, Try.ntmps12
 go_wp2
 go_loopg [5, 6, 7] k (fun kq v5 v6 v7 w' => ∃ (x5_1 : List (S30)) (x6_1 : Int) (x7_1 : Int), v6 = .int .i64 x6_1 ∧ v7 = .int .i64 x7_1 ∧ Aside0 (repriseseat_Events.l0 kq l0 l1 x5_1 x6_1 x7_1 = some r) ∧ Aside0 (kq ≤ k) ∧ Aside0 (Kd.N k30 30 w' w.heap.size (fun k_ => (w.heap.size ≤ k_)) v5 x5_1) ∧ Aside0 (Below w.heap.size w w'))
 case atStart => exact ⟨(([] : List (S30))), (0), (0), (by first | rfl | (simp; done) | (simp [*]; done)), (by first | rfl | (simp; done) | (simp [*]; done)), H', ⟨Nat.le_refl _⟩, ⟨by first | exact Kd.S_nil _ _ _ _ _ | exact Kd.N_nil _ _ _ _ _ | exact Kd.V_nil _ _ _ _ _ | exact Kd.Q_nil _ _ _ _ _ | exact Kd.R_nil _ _ _ _ _⟩, ⟨by repeat (first | (with_reducible first | exact HB.out | apply below_alloc | apply pw_below_drewN | apply below_drew1) | exact HB.out)⟩⟩
 case round =>
  clear H'
  try clear c1
  try clear p2
  obtain ⟨x5_1, x6_1, x7_1, rfl, rfl, HA, HK1, HO_5, HB⟩ := hrel; cases gk with
  | zero => exact absurd HA.out (by simp [repriseseat_Events.l0])
  | succ k1 =>
   have H := HA.out; clear HA; simp only [repriseseat_Events.l0] at H
   by_cases c3 : x7_1 < (l0.length : Int)
   ·rw [if_pos c3] at H
    have c3b0 : decide (x7_1 < (l0.length : Int)) = true := decide_eq_true c3
    clear c3; by_cases c4 : 0 ≤ x7_1
    ·rw [if_pos c4] at H
     have c4b0 : decide (0 ≤ x7_1) = true := decide_eq_true c4
     clear c4; by_cases c5 : (((Int.tdiv (rd l0 x7_1) 3) % 256) % 3) = 0
     ·rw [if_pos c5] at H
      have c5b0 : ((((Int.tdiv (rd l0 x7_1) 3) % 256) % 3) == 0) = true := beq_iff_eq.mpr c5
      have c5b1 : ((((Int.tdiv (rd l0 x7_1) 3) % 256) % 3) != 0) = false := bne_eq_false_iff_eq.mpr c5
      clear c5; have c6b0 := eq_true (of_decide_eq_true (by first | (with_reducible assumption) | assumption) : 0 ≤ x7_1)
      by_cases c7 : x7_1 ≤ (wrap64 (x7_1 + 1))
      ·rw [if_pos c7] at H
       have c7b0 := eq_true c7; have c7b1 : decide (x7_1 ≤ (wrap64 (x7_1 + 1))) = true := decide_eq_true c7
       by_cases c8 : (wrap64 (x7_1 + 1)) ≤ (l0.length : Int)
       ·rw [if_pos c8] at H
        have c8b0 := eq_true c8; have c8b1 : decide ((wrap64 (x7_1 + 1)) ≤ (l0.length : Int)) = true := decide_eq_true c8
        replace H := Option.bind_eq_some_iff.mp H; obtain ⟨t304, A90, H⟩ := H; replace H : ((some (([(⟨wrap64 (x6_1 + (wrap64 (Int.tmod (rd l0 x7_1) 3))), ((Int.tdiv (rd l0 x7_1) 3) % 256) % 3, t304, 0, 0⟩ : S30)] : List (S30)) : List (S30))).bind fun y307 => (if x5_1.length + y307.length < 2513169434916 then (repriseseat_Events.l0 k1 l0 l1 (x5_1 ++ y307) (wrap64 (x6_1 + (wrap64 (Int.tmod (rd l0 x7_1) 3)))) (wrap64 (x7_1 + 1))) else (none))) = some r := H
        have A9 := Aside0.mk A90; clear A90; obtain ⟨y307, hy307⟩ : ∃ y_ : List (S30), y_ = (([(⟨wrap64 (x6_1 + (wrap64 (Int.tmod (rd l0 x7_1) 3))), ((Int.tdiv (rd l0 x7_1) 3) % 256) % 3, t304, 0, 0⟩ : S30)] : List (S30))) := ⟨_, rfl⟩
        replace H : (if x5_1.length + y307.length < 2513169434916 then (repriseseat_Events.l0 k1 l0 l1 (x5_1 ++ y307) (wrap64 (x6_1 + (wrap64 (Int.tmod (rd l0 x7_1) 3)))) (wrap64 (x7_1 + 1))) else (none)) = some r := by first | (rw [hy307]; with_reducible exact H) | (have H2_ := (Option.bind_some _ _).symm.trans H; rw [hy307]; with_reducible exact H2_) | (have H2_ := (Option.bind_some _ _).symm.trans H; with_reducible exact H2_) | with_reducible exact H | (rw [hy307]; exact H) | exact H
        have Ny307 := Aside0.mk hy307; clear hy307; by_cases c10 : x5_1.length + y307.length < 2513169434916
        ·rw [if_pos c10] at H
         have LMc10 := Aside0.mk c10; clear c10; obtain ⟨y310, hy310⟩ : ∃ y_ : List (S30), y_ = (x5_1 ++ y307) := ⟨_, rfl⟩
         replace H : (repriseseat_Events.l0 k1 l0 l1 y310 (wrap64 (x6_1 + (wrap64 (Int.tmod (rd l0 x7_1) 3)))) (wrap64 (x7_1 + 1))) = some r := by first | (rw [hy310]; with_reducible exact H) | (have H2_ := (Option.bind_some _ _).symm.trans H; rw [hy310]; with_reducible exact H2_) | (have H2_ := (Option.bind_some _ _).symm.trans H; with_reducible exact H2_) | with_reducible exact H | (rw [hy310]; exact H) | exact H
         have Ny310 := Aside0.mk hy310; clear hy310; have H' := Aside0.mk H; clear H; have p300 : 0 ≤ (x7_1 : Int) := of_decide_eq_true (by first | (with_reducible assumption) | assumption)
         have q300 : x7_1 < (l0.length : Int) := of_decide_eq_true (by first | (with_reducible assumption) | assumption)
         obtain ⟨ad300, e300, hx300_0⟩ := Kd.at_int HR0.out x7_1 p300 q300; cases e300; replace hx300_0 := (HB.out.cell (World.block_lt_of_cell? w _ hx300_0)).trans hx300_0
         replace p300 := eq_true p300; replace q300 := eq_true q300; have p301 : 0 ≤ (x7_1 : Int) := of_decide_eq_true (by first | (with_reducible assumption) | assumption)
         have q301 : x7_1 < (l0.length : Int) := of_decide_eq_true (by first | (with_reducible assumption) | assumption)
         obtain ⟨ad301, e301, hx301_0⟩ := Kd.at_int HR0.out x7_1 p301 q301; obtain rfl : ad300 = ad301 := (by injection e301)
         replace hx301_0 := (HB.out.cell (World.block_lt_of_cell? w _ hx301_0)).trans hx301_0
         replace p301 := eq_true p301; replace q301 := eq_true q301; go_wp2_with (first | ((with_reducible refine gate_dst (N := 8) rfl ?_); refine box_event ?hg (N := 8) ?hd (cs := #[.int .i64 0, .int .i64 0, .slice none 0 0, .int .i64 0, .int .i64 0]) (t := 30) ?hr ?_; (case hd => rfl); (case hg => rfl); (case hr => first | (go_simp; done) | (go_simp; rfl)); intro gb302 hg w11 hbox hb; have n0_ := Aside0.mk (Kd.N_below (Kd.N_elderB (by (with_reducible repeat (first | apply Kd.N_alloc | apply Kd.N_drewN | apply Kd.N_drew)); exact HO_5.out) gb302 (Nat.le_of_eq hg.symm)) hb); have n1_ := Aside0.mk (below_step (by repeat (first | (with_reducible first | exact HB.out | apply below_alloc | apply pw_below_drewN | apply below_drew1) | exact HB.out)) hb); have n2_ := Aside0.mk (hbox); have n3_ := Aside0.mk ((by rw [hg]; exact (below_size (by repeat (first | (with_reducible first | exact HB.out | apply below_alloc | apply pw_below_drewN | apply below_drew1) | exact HB.out))) : w.heap.size ≤ gb302)); have n4_ := Aside0.mk ((by rw [hg]; exact (below_size (by repeat (first | (with_reducible first | exact HB.out | apply below_alloc | apply pw_below_drewN | apply below_drew1) | exact HB.out))) : w.heap.size ≤ gb302)); clear HO_5; clear HB; have HO_5 := n0_; have HB := n1_; have BK302 := n2_; have GW302 := n3_; have GE302 := n4_; clear n0_ n1_ n2_ n3_ n4_; clear hb hbox hg; have hcz12_0 : w11.cell? ⟨gb302, 0, none⟩ = some (.int .i64 0) := (blk_cell BK302.out 0).trans rfl; have hcz12_1 : w11.cell? ⟨gb302, 1, none⟩ = some (.int .i64 0) := (blk_cell BK302.out 1).trans rfl; have hcz12_2 : w11.cell? ⟨gb302, 2, none⟩ = some (.slice none 0 0) := (blk_cell BK302.out 2).trans rfl; have hcz12_3 : w11.cell? ⟨gb302, 3, none⟩ = some (.int .i64 0) := (blk_cell BK302.out 3).trans rfl; have hcz12_4 : w11.cell? ⟨gb302, 4, none⟩ = some (.int .i64 0) := (blk_cell BK302.out 4).trans rfl; have hfz12_0 := blk_frozen BK302.out 0; have hfz12_1 := blk_frozen BK302.out 1; have hfz12_2 := blk_frozen BK302.out 2; have hfz12_3 := blk_frozen BK302.out 3; have hfz12_4 := blk_frozen BK302.out 4; obtain ⟨i013, hi013, _, hsz13, _⟩ := info_parts info5; obtain ⟨A13, hcut13, hA13, hC13⟩ := print_mid_of (P := Try.prog) (Value.int .u8) 0 22 5 .i64 .i64 Try.underlying22 hi013 hsz13 (some ad300) c0 l0 x7_1 (wrap64 (x7_1 + 1)) (of_decide_eq_true (by first | (with_reducible assumption) | assumption)) (by first | omega | exact of_decide_eq_true (by first | (with_reducible assumption) | assumption)) (of_decide_eq_true (by first | (with_reducible assumption) | assumption)) HC0.out; have HR303 := Aside0.mk (Kd.C_of_reads (h1 := fun _ => rfl) (hA13 _ (Kd.reads_of_C HR0.out))); have HC303 := Aside0.mk hC13; clear hA13 hC13 hi013 hsz13) | ((with_reducible refine gate_callee (f := 32) rfl ?_); refine goesL_ (some 59) rfl rfl Try.func32 (by kernel_rfl) rfl #[.slice A13 ((l0.take ((wrap64 (x7_1 + 1)) : Int).toNat).drop (x7_1 : Int).toNat).length (c0 - x7_1.toNat)] rfl (by (try simp only [List.map_toArray, List.map_cons, List.map_nil]); first | done | (rw [show ((l0.take ((wrap64 (x7_1 + 1)) : Int).toNat).drop (x7_1 : Int).toNat).length = ((wrap64 (x7_1 + 1)).toNat - x7_1.toNat) from (by rw [List.length_drop, List.length_take]; have h_ : ((wrap64 (x7_1 + 1)) : Int) ≤ (l0.length : Int) := of_decide_eq_true (by first | (with_reducible assumption) | assumption); omega)] <;> rfl) | rfl | (simp only [List.length_drop, List.length_take]; rfl)) ?_; (with_reducible refine (repriseseat_Keys.calls k1 _ _ ((l0.take ((wrap64 (x7_1 + 1)) : Int).toNat).drop (x7_1 : Int).toNat) t304 _ ?side1 ?side2 A9.out).mono ?_); (case side1 => exact Kd.C_below HR303.out (by repeat (first | (with_reducible first | exact HB.out | apply below_alloc | apply pw_below_drewN | apply below_drew1 | refine below_set ?_ GE302.out) | exact HB.out))); (case side2 => exact HC303.out); rintro e w14 ⟨v305, rfl, ho0, hb⟩; refine ⟨_, rfl, ?_⟩; have n0_ := Aside0.mk (Kd.N_elder' (by (with_reducible repeat (first | apply Kd.N_alloc | apply Kd.N_drewN | apply Kd.N_drew)); exact (Kd.N_mono (Kd.N_far (p := ⟨gb302, 4, none⟩) (Kd.N_far (p := ⟨gb302, 3, none⟩) (Kd.N_far (p := ⟨gb302, 2, none⟩) (Kd.N_far (p := ⟨gb302, 1, none⟩) (Kd.N_far (p := ⟨gb302, 0, none⟩) (Kd.N_mono HO_5.out (fun k_ hk => (⟨hk, hk.2⟩ : _ ∧ k_ ≠ gb302))) (fun _ hk => hk.2) (.int .i64 (wrap64 (x6_1 + (wrap64 (Int.tmod (rd l0 x7_1) 3)))))) (fun _ hk => hk.2) (.int .i64 (((Int.tdiv (rd l0 x7_1) 3) % 256) % 3))) (fun _ hk => hk.2) (.slice none 0 0)) (fun _ hk => hk.2) (.int .i64 0)) (fun _ hk => hk.2) (.int .i64 0)) (fun _ h_ => h_.1))) (Kd.R_base ho0) hb); have n1_ := Aside0.mk (Kd.R_lower (Kd.R_newM (M := fun k_ => (w.heap.size ≤ k_)) ho0 (below_size (by repeat (first | (with_reducible first | exact HB.out | apply below_alloc | apply pw_below_drewN | apply below_drew1 | refine below_set ?_ GE302.out) | exact HB.out))) (fun k_ h_ => h_)) (below_size (by repeat (first | (with_reducible first | exact HB.out | apply below_alloc | apply pw_below_drewN | apply below_drew1 | refine below_set ?_ GE302.out) | exact HB.out)))); have n2_ := Aside0.mk (blk_below (g := gb302) (o := .cells #[.int .i64 (wrap64 (x6_1 + (wrap64 (Int.tmod (rd l0 x7_1) 3)))), .int .i64 (((Int.tdiv (rd l0 x7_1) 3) % 256) % 3), .slice none 0 0, .int .i64 0, .int .i64 0] 30 (0, 0)) (by (with_reducible repeat (first | refine blk_drewN ?_ _ | refine blk_drew ?_ | refine blk_alloc ?_ _)); refine blk_put (cs := #[.int .i64 (wrap64 (x6_1 + (wrap64 (Int.tmod (rd l0 x7_1) 3)))), .int .i64 (((Int.tdiv (rd l0 x7_1) 3) % 256) % 3), .slice none 0 0, .int .i64 0, .int .i64 0]) ?_ 4 _ rfl; (with_reducible repeat (first | refine blk_drewN ?_ _ | refine blk_drew ?_ | refine blk_alloc ?_ _)); refine blk_put (cs := #[.int .i64 (wrap64 (x6_1 + (wrap64 (Int.tmod (rd l0 x7_1) 3)))), .int .i64 (((Int.tdiv (rd l0 x7_1) 3) % 256) % 3), .slice none 0 0, .int .i64 0, .int .i64 0]) ?_ 3 _ rfl; (with_reducible repeat (first | refine blk_drewN ?_ _ | refine blk_drew ?_ | refine blk_alloc ?_ _)); refine blk_put (cs := #[.int .i64 (wrap64 (x6_1 + (wrap64 (Int.tmod (rd l0 x7_1) 3)))), .int .i64 (((Int.tdiv (rd l0 x7_1) 3) % 256) % 3), .slice none 0 0, .int .i64 0, .int .i64 0]) ?_ 2 _ rfl; (with_reducible repeat (first | refine blk_drewN ?_ _ | refine blk_drew ?_ | refine blk_alloc ?_ _)); refine blk_put (cs := #[.int .i64 (wrap64 (x6_1 + (wrap64 (Int.tmod (rd l0 x7_1) 3)))), .int .i64 0, .slice none 0 0, .int .i64 0, .int .i64 0]) ?_ 1 _ rfl; (with_reducible repeat (first | refine blk_drewN ?_ _ | refine blk_drew ?_ | refine blk_alloc ?_ _)); refine blk_put (cs := #[.int .i64 0, .int .i64 0, .slice none 0 0, .int .i64 0, .int .i64 0]) ?_ 0 _ rfl; (with_reducible repeat (first | refine blk_drewN ?_ _ | refine blk_drew ?_ | refine blk_alloc ?_ _)); exact BK302.out) hb); have n3_ := Aside0.mk (below_step (by repeat (first | (with_reducible first | exact HB.out | apply below_alloc | apply pw_below_drewN | apply below_drew1 | refine below_set ?_ GE302.out) | exact HB.out)) hb); clear HO_5; clear BK302; clear HB; have HO_5 := n0_; have HO306 := n1_; have BK302 := n2_; have HB := n3_; clear n0_ n1_ n2_ n3_; (try clear hb); (try clear hb2); (try clear hk); (try clear hi); (try clear ho0); obtain ⟨Ao15, co15, eo15⟩ := Kd.R_slice HO306.out; subst eo15; have hcz16_0 : w14.cell? ⟨gb302, 0, none⟩ = some (.int .i64 (wrap64 (x6_1 + (wrap64 (Int.tmod (rd l0 x7_1) 3))))) := (blk_cell BK302.out 0).trans rfl; have hcz16_1 : w14.cell? ⟨gb302, 1, none⟩ = some (.int .i64 (((Int.tdiv (rd l0 x7_1) 3) % 256) % 3)) := (blk_cell BK302.out 1).trans rfl; have hcz16_2 : w14.cell? ⟨gb302, 2, none⟩ = some (.slice none 0 0) := (blk_cell BK302.out 2).trans rfl; have hcz16_3 : w14.cell? ⟨gb302, 3, none⟩ = some (.int .i64 0) := (blk_cell BK302.out 3).trans rfl; have hcz16_4 : w14.cell? ⟨gb302, 4, none⟩ = some (.int .i64 0) := (blk_cell BK302.out 4).trans rfl; have hfz16_0 := blk_frozen BK302.out 0; have hfz16_1 := blk_frozen BK302.out 1; have hfz16_2 := blk_frozen BK302.out 2; have hfz16_3 := blk_frozen BK302.out 3; have hfz16_4 := blk_frozen BK302.out 4) | ((with_reducible refine gate_store (t := 22) (p := 60) rfl ?_); refine store_event (t := 22) (p := 60) (v := ?vo_w17) (w1 := (w14.setCell ⟨gb302, 2, none⟩ (.slice Ao15 t304.length co15))) ?hg ?ho ?hn ?hr ?_; (case ho => rfl); (case hg => rfl); (case hn => rfl); (case hr => first | (go_simp; done) | (go_simp; rfl)); intro w17 hw; have n0_ : Aside0 (Kd.N k30 30 w17 w.heap.size (fun k_ => (w.heap.size ≤ k_) ∧ some k_ ≠ (.slice Ao15 t304.length co15 : Value).ownBlock ∧ k_ ≠ gb302) u5 x5_1) := ⟨(by rw [hw]; exact (by (with_reducible repeat (first | apply Kd.N_alloc | apply Kd.N_drewN | apply Kd.N_drew)); exact Kd.N_mono (Kd.N_far (p := ⟨gb302, 2, none⟩) (Kd.N_mono HO_5.out (fun k_ hk => (⟨hk, hk.1.2⟩ : _ ∧ k_ ≠ gb302))) (fun _ hk => hk.2) (.slice Ao15 t304.length co15)) (fun _ hk => ⟨hk.1.1.1, ⟨hk.1.2, hk.1.1.2⟩⟩)))⟩; have n1_ : Aside0 (Kd.R (Kd.int .u8) 5 w17 w.heap.size (fun k_ => (w.heap.size ≤ k_)) (.slice Ao15 t304.length co15) t304) := ⟨(by rw [hw]; exact (by (with_reducible repeat (first | apply Kd.R_alloc | apply Kd.R_drewN | apply Kd.R_drew)); exact Kd.R_mono (Kd.R_far (p := ⟨gb302, 2, none⟩) (Kd.R_types HO306.out BK302.out (by decide)) (fun _ hk => hk.2) (.slice Ao15 t304.length co15)) (fun _ hk => hk.1.1)))⟩; have n2_ : Aside0 (w17.heap[gb302]? = some (.cells #[.int .i64 (wrap64 (x6_1 + (wrap64 (Int.tmod (rd l0 x7_1) 3)))), .int .i64 (((Int.tdiv (rd l0 x7_1) 3) % 256) % 3), .slice Ao15 t304.length co15, .int .i64 0, .int .i64 0] 30 (0, 0))) := ⟨(by rw [hw]; exact (by (with_reducible repeat (first | refine blk_drewN ?_ _ | refine blk_drew ?_ | refine blk_alloc ?_ _)); refine blk_put (cs := #[.int .i64 (wrap64 (x6_1 + (wrap64 (Int.tmod (rd l0 x7_1) 3)))), .int .i64 (((Int.tdiv (rd l0 x7_1) 3) % 256) % 3), .slice none 0 0, .int .i64 0, .int .i64 0]) ?_ 2 _ rfl; (with_reducible repeat (first | refine blk_drewN ?_ _ | refine blk_drew ?_ | refine blk_alloc ?_ _)); exact BK302.out))⟩; have n3_ : Aside0 (Below w.heap.size w w17) := ⟨(by rw [hw]; exact (by repeat (first | (with_reducible first | exact HB.out | apply below_alloc | apply pw_below_drewN | apply below_drew1 | refine below_set ?_ GE302.out) | exact HB.out)))⟩; clear hw; clear HO_5; clear HO306; clear BK302; clear HB; have HO_5 := n0_; have HO306 := n1_; have BK302 := n2_; have HB := n3_; clear n0_ n1_ n2_ n3_; have hcz18_0 : w17.cell? ⟨gb302, 0, none⟩ = some (.int .i64 (wrap64 (x6_1 + (wrap64 (Int.tmod (rd l0 x7_1) 3))))) := (blk_cell BK302.out 0).trans rfl; have hcz18_1 : w17.cell? ⟨gb302, 1, none⟩ = some (.int .i64 (((Int.tdiv (rd l0 x7_1) 3) % 256) % 3)) := (blk_cell BK302.out 1).trans rfl; have hcz18_2 : w17.cell? ⟨gb302, 2, none⟩ = some (.slice Ao15 t304.length co15) := (blk_cell BK302.out 2).trans rfl; have hcz18_3 : w17.cell? ⟨gb302, 3, none⟩ = some (.int .i64 0) := (blk_cell BK302.out 3).trans rfl; have hcz18_4 : w17.cell? ⟨gb302, 4, none⟩ = some (.int .i64 0) := (blk_cell BK302.out 4).trans rfl; have hfz18_0 := blk_frozen BK302.out 0; have hfz18_1 := blk_frozen BK302.out 1; have hfz18_2 := blk_frozen BK302.out 2; have hfz18_3 := blk_frozen BK302.out 3; have hfz18_4 := blk_frozen BK302.out 4) | ((with_reducible refine gate_dst (N := 85) rfl ?_); refine Kd.N_lit k30 _ 30 ?hg (N' := 85) ?hd (xs := ([(⟨wrap64 (x6_1 + (wrap64 (Int.tmod (rd l0 x7_1) 3))), ((Int.tdiv (rd l0 x7_1) 3) % 256) % 3, t304, 0, 0⟩ : S30)] : List (S30))) (inner := [.int .i64 (wrap64 (x6_1 + (wrap64 (Int.tmod (rd l0 x7_1) 3)))), .int .i64 (((Int.tdiv (rd l0 x7_1) 3) % 256) % 3), .slice Ao15 t304.length co15, .int .i64 0, .int .i64 0]) (ok := (fun k_ => (w.heap.size ≤ k_) ∧ some k_ ≠ (u5 : Value).ownBlock ∧ k_ ≠ gb302)) (okp := (fun k_ => (w.heap.size ≤ k_) ∧ some k_ ≠ (u5 : Value).ownBlock ∧ k_ ≠ gb302)) ?hr ?hp (fun _ hk => hk) ((show ∀ k_, w17.heap.size ≤ k_ → (fun k_ => (w.heap.size ≤ k_) ∧ some k_ ≠ (u5 : Value).ownBlock ∧ k_ ≠ gb302) k_ from fun k_ hk => ⟨(Nat.le_trans (below_size (by repeat (first | (with_reducible first | exact HB.out | apply below_alloc | apply pw_below_drewN | apply below_drew1 | refine below_set ?_ GE302.out) | exact HB.out))) hk), Kd.fresh' (Kd.N_lt (by (with_reducible repeat (first | apply Kd.N_alloc | apply Kd.N_drewN | apply Kd.N_drew)); exact HO_5.out)) k_ hk, Kd.freshB (g := gb302) (o := .cells #[.int .i64 (wrap64 (x6_1 + (wrap64 (Int.tmod (rd l0 x7_1) 3)))), .int .i64 (((Int.tdiv (rd l0 x7_1) 3) % 256) % 3), .slice Ao15 t304.length co15, .int .i64 0, .int .i64 0] 30 (0, 0)) (by (with_reducible repeat (first | refine blk_drewN ?_ _ | refine blk_drew ?_ | refine blk_alloc ?_ _)); exact BK302.out) k_ hk⟩) _ (Nat.le_refl _)) (Below.refl _ _) (Nat.le_refl _) (by simp) ?_; (case hd => rfl); (case hg => rfl); (case hr => first | (go_simp; done) | (go_simp; rfl)); (case hp => exact (Reps.c5 (show Kd.FK k30 _ _ (⟨wrap64 (x6_1 + (wrap64 (Int.tmod (rd l0 x7_1) 3))), ((Int.tdiv (rd l0 x7_1) 3) % 256) % 3, t304, 0, 0⟩ : S30) [.int .i64 (wrap64 (x6_1 + (wrap64 (Int.tmod (rd l0 x7_1) 3)))), .int .i64 (((Int.tdiv (rd l0 x7_1) 3) % 256) % 3), .slice Ao15 t304.length co15, .int .i64 0, .int .i64 0] from (k30_mkF _ _ (⟨wrap64 (x6_1 + (wrap64 (Int.tmod (rd l0 x7_1) 3))), ((Int.tdiv (rd l0 x7_1) 3) % 256) % 3, t304, 0, 0⟩ : S30) (Kd.R_reads' (Kd.R_mono (ok' := (fun k_ => (w.heap.size ≤ k_) ∧ some k_ ≠ (u5 : Value).ownBlock ∧ k_ ≠ gb302)) (Kd.R_types (Kd.R_apart' (HO306.out) (Kd.N_typed HO_5.out) (by decide)) BK302.out (by decide)) (fun k_ hk => ⟨hk.1.1, ⟨hk.1.2, hk.2⟩⟩))).2.1 (Kd.R_F (Kd.R_mono (ok' := (fun k_ => (w.heap.size ≤ k_) ∧ some k_ ≠ (u5 : Value).ownBlock ∧ k_ ≠ gb302)) (Kd.R_types (Kd.R_apart' (HO306.out) (Kd.N_typed HO_5.out) (by decide)) BK302.out (by decide)) (fun k_ hk => ⟨hk.1.1, ⟨hk.1.2, hk.2⟩⟩))))) (Reps.none _ _))); intro v308 w19 ho20 hb hg_ hnew_; clear hg_ hnew_; (first | rw [← Ny307.out] at ho20 | (simp only [Int.reduceToNat] at ho20; rw [← Ny307.out] at ho20)); have n0_ := Aside0.mk (Kd.N_elder' (by (with_reducible repeat (first | apply Kd.N_alloc | apply Kd.N_drewN | apply Kd.N_drew)); exact HO_5.out) (Kd.N_base ho20) hb); have n1_ := Aside0.mk (Kd.N_lower ho20 (below_size (by repeat (first | (with_reducible first | exact HB.out | apply below_alloc | apply pw_below_drewN | apply below_drew1 | refine below_set ?_ GE302.out) | exact HB.out)))); have n2_ := Aside0.mk (blk_below (g := gb302) (o := .cells #[.int .i64 (wrap64 (x6_1 + (wrap64 (Int.tmod (rd l0 x7_1) 3)))), .int .i64 (((Int.tdiv (rd l0 x7_1) 3) % 256) % 3), .slice Ao15 t304.length co15, .int .i64 0, .int .i64 0] 30 (0, 0)) (by (with_reducible repeat (first | refine blk_drewN ?_ _ | refine blk_drew ?_ | refine blk_alloc ?_ _)); exact BK302.out) hb); have n3_ := Aside0.mk (below_step (by repeat (first | (with_reducible first | exact HB.out | apply below_alloc | apply pw_below_drewN | apply below_drew1 | refine below_set ?_ GE302.out) | exact HB.out)) hb); clear HO_5; clear BK302; clear HB; clear HO306; have HO_5 := n0_; have HO309 := n1_; have BK302 := n2_; have HB := n3_; clear n0_ n1_ n2_ n3_; clear hb ho20; obtain ⟨Ao22, co22, eo22⟩ := Kd.N_slice HO309.out; subst eo22) | ((with_reducible refine gate_builtin (b := .append) (xs := #[.tmp 83, .tmp 85]) rfl ?_); at_builtin; refine Kd.N_append_rows k30 (w0 := w) w.heap.size rfl (.tmp 83) (.tmp 85) 25 30 (.agg #[(.int .i64 0), (.int .i64 0), (.slice none 0 0), (.int .i64 0), (.int .i64 0)]) 56 rfl Try.underlying25 info30 rfl (by decide) (by omega) u5 x5_1 y307 _ _ _ (fun k_ => (w.heap.size ≤ k_) ∧ k_ ≠ gb302) (fun k_ => ((fun k_ => (w.heap.size ≤ k_) ∧ k_ ≠ gb302)) k_ ∧ some k_ ≠ (u5 : Value).ownBlock) rfl rfl ?aO ?aR (fun _ hk => hk) ?aF ?aB ?aS ?aL ?_; (case aR => exact (by skip; exact Kd.N_F (Kd.N_mono (ok' := (fun k_ => ((fun k_ => (w.heap.size ≤ k_) ∧ k_ ≠ gb302)) k_ ∧ some k_ ≠ (u5 : Value).ownBlock)) (HO309.out) (fun k_ hk => ⟨⟨hk.1, hk.2.2⟩, hk.2.1⟩)))); (case aB => exact (by repeat (first | (with_reducible first | exact HB.out | apply below_alloc | apply pw_below_drewN | apply below_drew1 | refine below_set ?_ GE302.out) | exact HB.out))); (case aF => exact (fun k_ hk => ⟨(Nat.le_trans (below_size (by repeat (first | (with_reducible first | exact HB.out | apply below_alloc | apply pw_below_drewN | apply below_drew1 | refine below_set ?_ GE302.out) | exact HB.out))) hk), Kd.freshB (g := gb302) (o := .cells #[.int .i64 (wrap64 (x6_1 + (wrap64 (Int.tmod (rd l0 x7_1) 3)))), .int .i64 (((Int.tdiv (rd l0 x7_1) 3) % 256) % 3), .slice Ao15 t304.length co15, .int .i64 0, .int .i64 0] 30 (0, 0)) (by (with_reducible repeat (first | refine blk_drewN ?_ _ | refine blk_drew ?_ | refine blk_alloc ?_ _)); exact BK302.out) k_ hk⟩)); (case aO => exact (by (with_reducible repeat (first | apply Kd.N_alloc | apply Kd.N_drewN | apply Kd.N_drew)); exact Kd.N_mono HO_5.out (fun _ hk => ⟨hk.1.1, hk.1.2.2⟩))); (case aS => exact (below_size (by repeat (first | (with_reducible first | exact HB.out | apply below_alloc | apply pw_below_drewN | apply below_drew1 | refine below_set ?_ GE302.out) | exact HB.out)))); (case aL => have := LMc10.out; omega); intro v311 w21 ho hb hg hat; rw [← Ny310.out] at ho; have n0_ := Aside0.mk (blk_grown (g := gb302) (o := .cells #[.int .i64 (wrap64 (x6_1 + (wrap64 (Int.tmod (rd l0 x7_1) 3)))), .int .i64 (((Int.tdiv (rd l0 x7_1) 3) % 256) % 3), .slice Ao15 t304.length co15, .int .i64 0, .int .i64 0] 30 (0, 0)) (by (with_reducible repeat (first | refine blk_drewN ?_ _ | refine blk_drew ?_ | refine blk_alloc ?_ _)); exact BK302.out) hg (Kd.N_away HO_5.out (fun _ hk => hk.1.2.2))); have n1_ := Aside0.mk (Kd.N_afterv (ok := (fun k_ => (w.heap.size ≤ k_) ∧ k_ ≠ gb302)) (by (with_reducible repeat (first | apply Kd.N_alloc | apply Kd.N_drewN | apply Kd.N_drew)); exact Kd.N_mono HO309.out (fun _ hk => ⟨⟨hk.1, hk.2.2⟩, hk.2.1⟩)) hg hat); have n2_ := Aside0.mk (hb); have n3_ := Aside0.mk (ho); clear BK302; clear HO309; clear HB; clear HO_5; have BK302 := n0_; have HO309 := n1_; have HB := n2_; have HO312 := n3_; clear n0_ n1_ n2_ n3_; clear ho hb hg hat))
         go_roundg k1
         case measure => have := HK1.out; omega
         case rel => exact ⟨(y310), (wrap64 (x6_1 + (wrap64 (Int.tmod (rd l0 x7_1) 3)))), (wrap64 (x7_1 + 1)), (by first | rfl | (simp; done) | (simp [*]; done)), (by first | rfl | (simp; done) | (simp [*]; done)), H', ⟨by have := HK1.out; omega⟩, ⟨by (with_reducible repeat (first | apply Kd.N_alloc | apply Kd.N_drewN | apply Kd.N_drew)); exact Kd.N_mono HO312.out (fun _ hk => hk.1)⟩, ⟨by repeat (first | (with_reducible first | exact HB.out | apply below_alloc | apply pw_below_drewN | apply below_drew1 | refine below_set ?_ GE302.out) | exact HB.out)⟩⟩
        ·rw [if_neg c10] at H
         exact absurd H (by simp)
       ·rw [if_neg c8] at H
        exact absurd H (by simp)
      ·rw [if_neg c7] at H
       exact absurd H (by simp)
     ·rw [if_neg c5] at H
      have c5b0 : ((((Int.tdiv (rd l0 x7_1) 3) % 256) % 3) == 0) = false := beq_eq_false_iff_ne.mpr c5
      have c5b1 : ((((Int.tdiv (rd l0 x7_1) 3) % 256) % 3) != 0) = true := bne_iff_ne.mpr c5
      by_cases c23 : (((Int.tdiv (rd l0 x7_1) 3) % 256) % 3) = 1
      ·rw [if_pos c23] at H
       have c23b0 : ((((Int.tdiv (rd l0 x7_1) 3) % 256) % 3) == 1) = true := beq_iff_eq.mpr c23
       have c23b1 : ((((Int.tdiv (rd l0 x7_1) 3) % 256) % 3) != 1) = false := bne_eq_false_iff_eq.mpr c23
       clear c23; obtain ⟨ji24, hji24⟩ : ∃ j_ : Int, (mn (l1.length : Int) (wrap64 (Int.tmod (rd l0 x7_1) 4))) = j_ := ⟨_, rfl⟩
       replace H : (if 0 ≤ (ji24) then (if (ji24) ≤ (l1.length : Int) then (if ([] : List Int).length + (l1.take ((ji24) : Int).toNat).length < 140737488355328 then ((some (([] : List Int) ++ (l1.take ((ji24) : Int).toNat) : List Int)).bind fun y315 => ((some (([rd l0 x7_1] : List Int) : List Int)).bind fun y319 => (if y315.length + y319.length < 140737488355328 then ((repriseseat_Bytes.f k1 (y315 ++ y319)).bind fun t325 => ((some (([(⟨wrap64 (x6_1 + (wrap64 (Int.tmod (rd l0 x7_1) 3))), ((Int.tdiv (rd l0 x7_1) 3) % 256) % 3, t325, 0, 0⟩ : S30)] : List (S30)) : List (S30))).bind fun y328 => (if x5_1.length + y328.length < 2513169434916 then (repriseseat_Events.l0 k1 l0 l1 (x5_1 ++ y328) (wrap64 (x6_1 + (wrap64 (Int.tmod (rd l0 x7_1) 3)))) (wrap64 (x7_1 + 1))) else (none)))) else (none)))) else (none)) else (none)) else (none)) = some r := by first | (rw [hji24] at H; exact H) | (simp only [hji24] at H ⊢; exact H)
       have hji24_ : (if (wrap64 (Int.tmod (rd l0 x7_1) 4)) < (l1.length : Int) then (wrap64 (Int.tmod (rd l0 x7_1) 4)) else (l1.length : Int)) = ji24 := hji24
       by_cases c25 : 0 ≤ (ji24)
       ·rw [if_pos c25] at H
        have c25b0 := eq_true c25; have c25b1 : decide (0 ≤ (ji24)) = true := decide_eq_true c25
        clear c25; by_cases c26 : (ji24) ≤ (l1.length : Int)
        ·rw [if_pos c26] at H
         have c26b0 := eq_true c26; have c26b1 : decide ((ji24) ≤ (l1.length : Int)) = true := decide_eq_true c26
         clear c26; by_cases c27 : ([] : List Int).length + (l1.take ((ji24) : Int).toNat).length < 140737488355328
         ·rw [if_pos c27] at H
          have LMc27 := Aside0.mk c27; clear c27; obtain ⟨y315, hy315⟩ : ∃ y_ : List Int, y_ = (([] : List Int) ++ (l1.take ((ji24) : Int).toNat)) := ⟨_, rfl⟩
          replace H : ((some (([rd l0 x7_1] : List Int) : List Int)).bind fun y319 => (if y315.length + y319.length < 140737488355328 then ((repriseseat_Bytes.f k1 (y315 ++ y319)).bind fun t325 => ((some (([(⟨wrap64 (x6_1 + (wrap64 (Int.tmod (rd l0 x7_1) 3))), ((Int.tdiv (rd l0 x7_1) 3) % 256) % 3, t325, 0, 0⟩ : S30)] : List (S30)) : List (S30))).bind fun y328 => (if x5_1.length + y328.length < 2513169434916 then (repriseseat_Events.l0 k1 l0 l1 (x5_1 ++ y328) (wrap64 (x6_1 + (wrap64 (Int.tmod (rd l0 x7_1) 3)))) (wrap64 (x7_1 + 1))) else (none)))) else (none))) = some r := by first | (rw [hy315]; with_reducible exact H) | (have H2_ := (Option.bind_some _ _).symm.trans H; rw [hy315]; with_reducible exact H2_) | (have H2_ := (Option.bind_some _ _).symm.trans H; with_reducible exact H2_) | with_reducible exact H | (rw [hy315]; exact H) | exact H
          have Ny315 := Aside0.mk hy315; clear hy315; obtain ⟨y319, hy319⟩ : ∃ y_ : List Int, y_ = (([rd l0 x7_1] : List Int)) := ⟨_, rfl⟩
          replace H : (if y315.length + y319.length < 140737488355328 then ((repriseseat_Bytes.f k1 (y315 ++ y319)).bind fun t325 => ((some (([(⟨wrap64 (x6_1 + (wrap64 (Int.tmod (rd l0 x7_1) 3))), ((Int.tdiv (rd l0 x7_1) 3) % 256) % 3, t325, 0, 0⟩ : S30)] : List (S30)) : List (S30))).bind fun y328 => (if x5_1.length + y328.length < 2513169434916 then (repriseseat_Events.l0 k1 l0 l1 (x5_1 ++ y328) (wrap64 (x6_1 + (wrap64 (Int.tmod (rd l0 x7_1) 3)))) (wrap64 (x7_1 + 1))) else (none)))) else (none)) = some r := by first | (rw [hy319]; with_reducible exact H) | (have H2_ := (Option.bind_some _ _).symm.trans H; rw [hy319]; with_reducible exact H2_) | (have H2_ := (Option.bind_some _ _).symm.trans H; with_reducible exact H2_) | with_reducible exact H | (rw [hy319]; exact H) | exact H
          have Ny319 := Aside0.mk hy319; clear hy319; by_cases c28 : y315.length + y319.length < 140737488355328
          ·rw [if_pos c28] at H
           have LMc28 := Aside0.mk c28; clear c28; obtain ⟨y322, hy322⟩ : ∃ y_ : List Int, y_ = (y315 ++ y319) := ⟨_, rfl⟩
           replace H : ((repriseseat_Bytes.f k1 y322).bind fun t325 => ((some (([(⟨wrap64 (x6_1 + (wrap64 (Int.tmod (rd l0 x7_1) 3))), ((Int.tdiv (rd l0 x7_1) 3) % 256) % 3, t325, 0, 0⟩ : S30)] : List (S30)) : List (S30))).bind fun y328 => (if x5_1.length + y328.length < 2513169434916 then (repriseseat_Events.l0 k1 l0 l1 (x5_1 ++ y328) (wrap64 (x6_1 + (wrap64 (Int.tmod (rd l0 x7_1) 3)))) (wrap64 (x7_1 + 1))) else (none)))) = some r := by first | (rw [hy322]; with_reducible exact H) | (have H2_ := (Option.bind_some _ _).symm.trans H; rw [hy322]; with_reducible exact H2_) | (have H2_ := (Option.bind_some _ _).symm.trans H; with_reducible exact H2_) | with_reducible exact H | (rw [hy322]; exact H) | exact H
           have Ny322 := Aside0.mk hy322; clear hy322; replace H := Option.bind_eq_some_iff.mp H; obtain ⟨t325, A290, H⟩ := H; replace H : ((some (([(⟨wrap64 (x6_1 + (wrap64 (Int.tmod (rd l0 x7_1) 3))), ((Int.tdiv (rd l0 x7_1) 3) % 256) % 3, t325, 0, 0⟩ : S30)] : List (S30)) : List (S30))).bind fun y328 => (if x5_1.length + y328.length < 2513169434916 then (repriseseat_Events.l0 k1 l0 l1 (x5_1 ++ y328) (wrap64 (x6_1 + (wrap64 (Int.tmod (rd l0 x7_1) 3)))) (wrap64 (x7_1 + 1))) else (none))) = some r := H
           have A29 := Aside0.mk A290; clear A290; obtain ⟨y328, hy328⟩ : ∃ y_ : List (S30), y_ = (([(⟨wrap64 (x6_1 + (wrap64 (Int.tmod (rd l0 x7_1) 3))), ((Int.tdiv (rd l0 x7_1) 3) % 256) % 3, t325, 0, 0⟩ : S30)] : List (S30))) := ⟨_, rfl⟩
           replace H : (if x5_1.length + y328.length < 2513169434916 then (repriseseat_Events.l0 k1 l0 l1 (x5_1 ++ y328) (wrap64 (x6_1 + (wrap64 (Int.tmod (rd l0 x7_1) 3)))) (wrap64 (x7_1 + 1))) else (none)) = some r := by first | (rw [hy328]; with_reducible exact H) | (have H2_ := (Option.bind_some _ _).symm.trans H; rw [hy328]; with_reducible exact H2_) | (have H2_ := (Option.bind_some _ _).symm.trans H; with_reducible exact H2_) | with_reducible exact H | (rw [hy328]; exact H) | exact H
           have Ny328 := Aside0.mk hy328; clear hy328; by_cases c30 : x5_1.length + y328.length < 2513169434916
           ·rw [if_pos c30] at H
            have LMc30 := Aside0.mk c30; clear c30; obtain ⟨y331, hy331⟩ : ∃ y_ : List (S30), y_ = (x5_1 ++ y328) := ⟨_, rfl⟩
            replace H : (repriseseat_Events.l0 k1 l0 l1 y331 (wrap64 (x6_1 + (wrap64 (Int.tmod (rd l0 x7_1) 3)))) (wrap64 (x7_1 + 1))) = some r := by first | (rw [hy331]; with_reducible exact H) | (have H2_ := (Option.bind_some _ _).symm.trans H; rw [hy331]; with_reducible exact H2_) | (have H2_ := (Option.bind_some _ _).symm.trans H; with_reducible exact H2_) | with_reducible exact H | (rw [hy331]; exact H) | exact H
            have Ny331 := Aside0.mk hy331; clear hy331; have H' := Aside0.mk H; clear H; have p300 : 0 ≤ (x7_1 : Int) := of_decide_eq_true (by first | (with_reducible assumption) | assumption)
            have q300 : x7_1 < (l0.length : Int) := of_decide_eq_true (by first | (with_reducible assumption) | assumption)
            obtain ⟨ad300, e300, hx300_0⟩ := Kd.at_int HR0.out x7_1 p300 q300; cases e300; replace hx300_0 := (HB.out.cell (World.block_lt_of_cell? w _ hx300_0)).trans hx300_0
            replace p300 := eq_true p300; replace q300 := eq_true q300; have p301 : 0 ≤ (x7_1 : Int) := of_decide_eq_true (by first | (with_reducible assumption) | assumption)
            have q301 : x7_1 < (l0.length : Int) := of_decide_eq_true (by first | (with_reducible assumption) | assumption)
            obtain ⟨ad301, e301, hx301_0⟩ := Kd.at_int HR0.out x7_1 p301 q301; obtain rfl : ad300 = ad301 := (by injection e301)
            replace hx301_0 := (HB.out.cell (World.block_lt_of_cell? w _ hx301_0)).trans hx301_0
            replace p301 := eq_true p301; replace q301 := eq_true q301
            try go_wp2_with (first | ((with_reducible refine gate_dst (N := 8) rfl ?_); refine box_event ?hg (N := 8) ?hd (cs := #[.int .i64 0, .int .i64 0, .slice none 0 0, .int .i64 0, .int .i64 0]) (t := 30) ?hr ?_; (case hd => rfl); (case hg => rfl); (case hr => first | (go_simp; done) | (go_simp; rfl)); intro gb302 hg w31 hbox hb; have n0_ := Aside0.mk (Kd.N_below (Kd.N_elderB (by (with_reducible repeat (first | apply Kd.N_alloc | apply Kd.N_drewN | apply Kd.N_drew)); exact HO_5.out) gb302 (Nat.le_of_eq hg.symm)) hb); have n1_ := Aside0.mk (below_step (by repeat (first | (with_reducible first | exact HB.out | apply below_alloc | apply pw_below_drewN | apply below_drew1) | exact HB.out)) hb); have n2_ := Aside0.mk (hbox); have n3_ := Aside0.mk ((by rw [hg]; exact (below_size (by repeat (first | (with_reducible first | exact HB.out | apply below_alloc | apply pw_below_drewN | apply below_drew1) | exact HB.out))) : w.heap.size ≤ gb302)); have n4_ := Aside0.mk ((by rw [hg]; exact (below_size (by repeat (first | (with_reducible first | exact HB.out | apply below_alloc | apply pw_below_drewN | apply below_drew1) | exact HB.out))) : w.heap.size ≤ gb302)); clear HO_5; clear HB; have HO_5 := n0_; have HB := n1_; have BK302 := n2_; have GW302 := n3_; have GE302 := n4_; clear n0_ n1_ n2_ n3_ n4_; clear hb hbox hg; have hcz32_0 : w31.cell? ⟨gb302, 0, none⟩ = some (.int .i64 0) := (blk_cell BK302.out 0).trans rfl; have hcz32_1 : w31.cell? ⟨gb302, 1, none⟩ = some (.int .i64 0) := (blk_cell BK302.out 1).trans rfl; have hcz32_2 : w31.cell? ⟨gb302, 2, none⟩ = some (.slice none 0 0) := (blk_cell BK302.out 2).trans rfl; have hcz32_3 : w31.cell? ⟨gb302, 3, none⟩ = some (.int .i64 0) := (blk_cell BK302.out 3).trans rfl; have hcz32_4 : w31.cell? ⟨gb302, 4, none⟩ = some (.int .i64 0) := (blk_cell BK302.out 4).trans rfl; have hfz32_0 := blk_frozen BK302.out 0; have hfz32_1 := blk_frozen BK302.out 1; have hfz32_2 := blk_frozen BK302.out 2; have hfz32_3 := blk_frozen BK302.out 3; have hfz32_4 := blk_frozen BK302.out 4))
            have n0_ : Aside0 (Kd.N k30 30 (((((w31.setCell ⟨gb302, 0, none⟩ (.int .i64 (wrap64 (x6_1 + (wrap64 (Int.tmod (rd l0 x7_1) 3)))))).setCell ⟨gb302, 1, none⟩ (.int .i64 (((Int.tdiv (rd l0 x7_1) 3) % 256) % 3))).setCell ⟨gb302, 2, none⟩ (.slice none 0 0)).setCell ⟨gb302, 3, none⟩ (.int .i64 0)).setCell ⟨gb302, 4, none⟩ (.int .i64 0)) w.heap.size (fun k_ => (w.heap.size ≤ k_) ∧ k_ ≠ gb302) u5 x5_1) := ⟨by (with_reducible repeat (first | apply Kd.N_alloc | apply Kd.N_drewN | apply Kd.N_drew)); exact Kd.N_mono (Kd.N_far (p := ⟨gb302, 4, none⟩) (Kd.N_far (p := ⟨gb302, 3, none⟩) (Kd.N_far (p := ⟨gb302, 2, none⟩) (Kd.N_far (p := ⟨gb302, 1, none⟩) (Kd.N_far (p := ⟨gb302, 0, none⟩) (Kd.N_mono HO_5.out (fun k_ hk => (⟨hk, hk.2⟩ : _ ∧ k_ ≠ gb302))) (fun _ hk => hk.2) (.int .i64 (wrap64 (x6_1 + (wrap64 (Int.tmod (rd l0 x7_1) 3)))))) (fun _ hk => hk.2) (.int .i64 (((Int.tdiv (rd l0 x7_1) 3) % 256) % 3))) (fun _ hk => hk.2) (.slice none 0 0)) (fun _ hk => hk.2) (.int .i64 0)) (fun _ hk => hk.2) (.int .i64 0)) (fun _ hk => ⟨hk.1.1, hk.1.2⟩)⟩
            have n1_ : Aside0 ((((((w31.setCell ⟨gb302, 0, none⟩ (.int .i64 (wrap64 (x6_1 + (wrap64 (Int.tmod (rd l0 x7_1) 3)))))).setCell ⟨gb302, 1, none⟩ (.int .i64 (((Int.tdiv (rd l0 x7_1) 3) % 256) % 3))).setCell ⟨gb302, 2, none⟩ (.slice none 0 0)).setCell ⟨gb302, 3, none⟩ (.int .i64 0)).setCell ⟨gb302, 4, none⟩ (.int .i64 0)).heap[gb302]? = some (.cells #[.int .i64 (wrap64 (x6_1 + (wrap64 (Int.tmod (rd l0 x7_1) 3)))), .int .i64 (((Int.tdiv (rd l0 x7_1) 3) % 256) % 3), .slice none 0 0, .int .i64 0, .int .i64 0] 30 (0, 0))) := ⟨by (with_reducible repeat (first | refine blk_drewN ?_ _ | refine blk_drew ?_ | refine blk_alloc ?_ _)); refine blk_put (cs := #[.int .i64 (wrap64 (x6_1 + (wrap64 (Int.tmod (rd l0 x7_1) 3)))), .int .i64 (((Int.tdiv (rd l0 x7_1) 3) % 256) % 3), .slice none 0 0, .int .i64 0, .int .i64 0]) ?_ 4 _ rfl; (with_reducible repeat (first | refine blk_drewN ?_ _ | refine blk_drew ?_ | refine blk_alloc ?_ _)); refine blk_put (cs := #[.int .i64 (wrap64 (x6_1 + (wrap64 (Int.tmod (rd l0 x7_1) 3)))), .int .i64 (((Int.tdiv (rd l0 x7_1) 3) % 256) % 3), .slice none 0 0, .int .i64 0, .int .i64 0]) ?_ 3 _ rfl; (with_reducible repeat (first | refine blk_drewN ?_ _ | refine blk_drew ?_ | refine blk_alloc ?_ _)); refine blk_put (cs := #[.int .i64 (wrap64 (x6_1 + (wrap64 (Int.tmod (rd l0 x7_1) 3)))), .int .i64 (((Int.tdiv (rd l0 x7_1) 3) % 256) % 3), .slice none 0 0, .int .i64 0, .int .i64 0]) ?_ 2 _ rfl; (with_reducible repeat (first | refine blk_drewN ?_ _ | refine blk_drew ?_ | refine blk_alloc ?_ _)); refine blk_put (cs := #[.int .i64 (wrap64 (x6_1 + (wrap64 (Int.tmod (rd l0 x7_1) 3)))), .int .i64 0, .slice none 0 0, .int .i64 0, .int .i64 0]) ?_ 1 _ rfl; (with_reducible repeat (first | refine blk_drewN ?_ _ | refine blk_drew ?_ | refine blk_alloc ?_ _)); refine blk_put (cs := #[.int .i64 0, .int .i64 0, .slice none 0 0, .int .i64 0, .int .i64 0]) ?_ 0 _ rfl; (with_reducible repeat (first | refine blk_drewN ?_ _ | refine blk_drew ?_ | refine blk_alloc ?_ _)); exact BK302.out⟩
            have n2_ : Aside0 (Below w.heap.size w (((((w31.setCell ⟨gb302, 0, none⟩ (.int .i64 (wrap64 (x6_1 + (wrap64 (Int.tmod (rd l0 x7_1) 3)))))).setCell ⟨gb302, 1, none⟩ (.int .i64 (((Int.tdiv (rd l0 x7_1) 3) % 256) % 3))).setCell ⟨gb302, 2, none⟩ (.slice none 0 0)).setCell ⟨gb302, 3, none⟩ (.int .i64 0)).setCell ⟨gb302, 4, none⟩ (.int .i64 0))) := ⟨by repeat (first | (with_reducible first | exact HB.out | apply below_alloc | apply pw_below_drewN | apply below_drew1 | refine below_set ?_ GE302.out) | exact HB.out)⟩
            (try clear HO_5)
            (try clear BK302)
            (try clear HB)
            generalize (((((w31.setCell ⟨gb302, 0, none⟩ (.int .i64 (wrap64 (x6_1 + (wrap64 (Int.tmod (rd l0 x7_1) 3)))))).setCell ⟨gb302, 1, none⟩ (.int .i64 (((Int.tdiv (rd l0 x7_1) 3) % 256) % 3))).setCell ⟨gb302, 2, none⟩ (.slice none 0 0)).setCell ⟨gb302, 3, none⟩ (.int .i64 0)).setCell ⟨gb302, 4, none⟩ (.int .i64 0)) = w33 at n0_ n1_ n2_ ⊢
            have HO_5 := n0_; have BK302 := n1_; have HB := n2_; clear n0_ n1_ n2_; have n0_ := Aside0.mk (Kd.N_drew HO_5.out)
            have n1_ := Aside0.mk (blk_drew BK302.out)
            have n2_ := Aside0.mk (below_drew1 HB.out)
            clear HO_5 BK302 HB; have HO_5 := n0_; have BK302 := n1_; have HB := n2_; clear n0_ n1_ n2_; have p313 : 0 ≤ (x7_1 : Int) := of_decide_eq_true (by first | (with_reducible assumption) | assumption)
            have q313 : x7_1 < (l0.length : Int) := of_decide_eq_true (by first | (with_reducible assumption) | assumption)
            obtain ⟨ad313, e313, hx313_0⟩ := Kd.at_int HR0.out x7_1 p313 q313; have hw313_0 := hx313_0; obtain rfl : ad300 = ad313 := (by injection e313)
            replace hx313_0 := (HB.out.cell (World.block_lt_of_cell? w _ hx313_0)).trans hx313_0
            replace p313 := eq_true p313; replace q313 := eq_true q313; obtain ⟨i035, hi035, _, hsz35, _⟩ := info_parts info5; obtain ⟨hcut35, hA35, hC35⟩ := print_take_of (P := Try.prog) (Value.int .u8) 0 22 5 .i64 Try.underlying22 hi035 hsz35 A1 c1 l1 (ji24) (of_decide_eq_true (by first | (with_reducible assumption) | assumption)) (of_decide_eq_true (by first | (with_reducible assumption) | assumption)) HC1.out
            have HR314 := Aside0.mk (Kd.C_of_reads (h1 := fun _ => rfl) (hA35 _ (Kd.reads_of_C HR1.out)))
            have HC314 := Aside0.mk hC35; clear hA35 hC35 hi035 hsz35; have p318 : 0 ≤ (x7_1 : Int) := of_decide_eq_true (by first | (with_reducible assumption) | assumption)
            have q318 : x7_1 < (l0.length : Int) := of_decide_eq_true (by first | (with_reducible assumption) | assumption)
            obtain ⟨ad318, e318, hx318_0⟩ := Kd.at_int HR0.out x7_1 p318 q318; have hw318_0 := hx318_0; obtain rfl : ad300 = ad318 := (by injection e318)
            replace hx318_0 := (HB.out.cell (World.block_lt_of_cell? w _ hx318_0)).trans hx318_0
            replace p318 := eq_true p318; replace q318 := eq_true q318; refine start_ (n := 21) (S := fun w' => w'.cell? (ad300.add (x7_1).toNat) = some (.int .u8 (rd l0 x7_1)) ∧ w'.cell? (ad300.add (x7_1).toNat) = some (.int .u8 (rd l0 x7_1))) (ds := []) #[false, false, false, false, false, false, false, false, false, false, false, false, false, false, false, false, false, false, false, false, false] (by kernel_rfl) rfl rfl ⟨((HB.out.cell (World.block_lt_of_cell? w _ hw313_0)).trans hw313_0), ((HB.out.cell (World.block_lt_of_cell? w _ hw318_0)).trans hw318_0)⟩ (fun hHeld => ?_); refine with_tabW repriseseat_Events.tab13 repriseseat_Events.bits13 (fun HT_ HW_ => ?_)
            generalize w33.drew = w34 at HO_5 BK302 HB HR314 hx313_0 hx318_0 hHeld ⊢
            refine pure_ (i := 0) (N := some 63) (v := ?_) (a' := ?_) #[true, false, false, false, false, false, false, false, false, false, false, false, false, false, false, false, false, false, false, false, false] rfl rfl (any_of HT_.out (by kernel_rfl)) (fun _ _ _ h => h) (Or.inl ⟨by rfl, ?_⟩) ?_ ?_
            rotate_left
            ·intro w'
             go_simp
             with_reducible rfl
            rotate_left
            ·simp only [Act.put, List.setIfInBounds_toArray, List.set_cons_zero, List.set_cons_succ, i64_w, i32_w]
             rfl
            refine pure_ (i := 1) (N := some 64) (v := ?_) (a' := ?_) #[true, true, false, false, false, false, false, false, false, false, false, false, false, false, false, false, false, false, false, false, false] rfl rfl (any_of HT_.out (by kernel_rfl)) (fun _ _ _ h => h) (Or.inl ⟨by rfl, ?_⟩) ?_ ?_
            rotate_left
            ·intro w'
             go_simp
             with_reducible rfl
            rotate_left
            ·simp only [Act.put, List.setIfInBounds_toArray, List.set_cons_zero, List.set_cons_succ, i64_w, i32_w]
             rfl
            refine pure_ (i := 2) (N := some 65) (v := ?_) (a' := ?_) #[true, true, true, false, false, false, false, false, false, false, false, false, false, false, false, false, false, false, false, false, false] rfl rfl (any_of HT_.out (by kernel_rfl)) (fun _ _ _ h => h) (Or.inl ⟨by rfl, ?_⟩) ?_ ?_
            rotate_left
            ·intro w'
             go_simp
             with_reducible rfl
            rotate_left
            ·simp only [Act.put, List.setIfInBounds_toArray, List.set_cons_zero, List.set_cons_succ, i64_w, i32_w]
             rfl
            refine pure_ (i := 3) (N := some 66) (v := ?_) (a' := ?_) #[true, true, true, true, false, false, false, false, false, false, false, false, false, false, false, false, false, false, false, false, false] rfl rfl (any_of HT_.out (by kernel_rfl)) (fun _ _ _ h => h) (Or.inl ⟨by rfl, ?_⟩) ?_ ?_
            rotate_left
            ·intro w'
             go_simp
             with_reducible rfl
            rotate_left
            ·simp only [Act.put, List.setIfInBounds_toArray, List.set_cons_zero, List.set_cons_succ, i64_w, i32_w]
             rfl
            refine pure_ (i := 4) (N := some 67) (v := ?_) (a' := ?_) #[true, true, true, true, true, false, false, false, false, false, false, false, false, false, false, false, false, false, false, false, false] rfl rfl (any_of HT_.out (by kernel_rfl)) (fun _ _ _ h => h) (Or.inl ⟨by rfl, ?_⟩) ?_ ?_
            rotate_left
            ·intro w'
             go_simp
             with_reducible rfl
            rotate_left
            ·simp only [Act.put, List.setIfInBounds_toArray, List.set_cons_zero, List.set_cons_succ, i64_w, i32_w]
             rfl
            refine pure_ (i := 5) (N := some 68) (v := ?_) (a' := ?_) #[true, true, true, true, true, true, false, false, false, false, false, false, false, false, false, false, false, false, false, false, false] rfl rfl (any_of HT_.out (by kernel_rfl)) (fun _ _ _ h => h) (Or.inl ⟨by rfl, ?_⟩) ?_ ?_
            rotate_left
            ·intro w'
             go_simp
             with_reducible rfl
            rotate_left
            ·simp only [Act.put, List.setIfInBounds_toArray, List.set_cons_zero, List.set_cons_succ, i64_w, i32_w]
             rfl
            refine pure_ (i := 12) (N := some 75) (v := ?_) (a' := ?_) #[true, true, true, true, true, true, false, false, false, false, false, false, true, false, false, false, false, false, false, false, false] rfl rfl (any_of HT_.out (by kernel_rfl)) (fun _ _ _ h => h) (Or.inl ⟨by rfl, ?_⟩) ?_ ?_
            rotate_left
            ·intro w'
             go_simp
             with_reducible rfl
            rotate_left
            ·simp only [Act.put, List.setIfInBounds_toArray, List.set_cons_zero, List.set_cons_succ, i64_w, i32_w]
             rfl
            refine pure_ (i := 13) (N := some 76) (v := ?_) (a' := ?_) #[true, true, true, true, true, true, false, false, false, false, false, false, true, true, false, false, false, false, false, false, false] rfl rfl (any_of HT_.out (by kernel_rfl)) (fun _ _ _ h => h) (Or.inl ⟨by rfl, ?_⟩) ?_ ?_
            rotate_left
            ·intro w'
             go_simp
             with_reducible rfl
            rotate_left
            ·simp only [Act.put, List.setIfInBounds_toArray, List.set_cons_zero, List.set_cons_succ, i64_w, i32_w]
             rfl
            refine pure_ (i := 14) (N := some 77) (v := ?_) (a' := ?_) #[true, true, true, true, true, true, false, false, false, false, false, false, true, true, true, false, false, false, false, false, false] rfl rfl (any_of HT_.out (by kernel_rfl)) (fun _ _ _ h => h) (Or.inl ⟨by rfl, ?_⟩) ?_ ?_
            rotate_left
            ·intro w'
             go_simp
             with_reducible rfl
            rotate_left
            ·simp only [Act.put, List.setIfInBounds_toArray, List.set_cons_zero, List.set_cons_succ, i64_w, i32_w]
             rfl
            refine take_ (i := 6) (N := some 69) (v := ?_) (a' := ?_) #[true, true, true, true, true, true, true, false, false, false, false, false, true, true, true, false, false, false, false, false, false] rfl rfl (take_ofW HT_.out HW_.out (by kernel_rfl)) (fun _ _ _ h => h) (Or.inl ⟨by rfl, ?_⟩) hHeld ?_ ?_
            rotate_left
            ·rintro w' ⟨s0, s1⟩
             go_simp
             with_reducible rfl
            rotate_left
            ·simp only [Act.put, List.setIfInBounds_toArray, List.set_cons_zero, List.set_cons_succ, i64_w, i32_w]
             rfl
            refine pure_ (i := 7) (N := some 70) (v := ?_) (a' := ?_) #[true, true, true, true, true, true, true, true, false, false, false, false, true, true, true, false, false, false, false, false, false] rfl rfl (any_of HT_.out (by kernel_rfl)) (fun _ _ _ h => h) (Or.inl ⟨by rfl, ?_⟩) ?_ ?_
            rotate_left
            ·intro w'
             go_simp
             with_reducible rfl
            rotate_left
            ·simp only [Act.put, List.setIfInBounds_toArray, List.set_cons_zero, List.set_cons_succ, i64_w, i32_w]
             rfl
            refine pure_ (i := 8) (N := some 71) (v := ?_) (a' := ?_) #[true, true, true, true, true, true, true, true, true, false, false, false, true, true, true, false, false, false, false, false, false] rfl rfl (any_of HT_.out (by kernel_rfl)) (fun _ _ _ h => h) (Or.inl ⟨by rfl, ?_⟩) ?_ ?_
            rotate_left
            ·intro w'
             go_simp
             with_reducible rfl
            rotate_left
            ·simp only [Act.put, List.setIfInBounds_toArray, List.set_cons_zero, List.set_cons_succ, i64_w, i32_w]
             rfl
            refine pure_ (i := 9) (N := some 72) (v := ?_) (a' := ?_) #[true, true, true, true, true, true, true, true, true, true, false, false, true, true, true, false, false, false, false, false, false] rfl rfl (any_of HT_.out (by kernel_rfl)) (fun _ _ _ h => h) (Or.inl ⟨by rfl, ?_⟩) ?_ ?_
            rotate_left
            ·intro w'
             go_simp
             with_reducible rfl
            rotate_left
            ·simp only [Act.put, List.setIfInBounds_toArray, List.set_cons_zero, List.set_cons_succ, i64_w, i32_w]
             rfl
            refine pure_ (i := 10) (N := some 73) (v := ?_) (a' := ?_) #[true, true, true, true, true, true, true, true, true, true, true, false, true, true, true, false, false, false, false, false, false] rfl rfl (any_of HT_.out (by kernel_rfl)) (fun _ _ _ h => h) (Or.inl ⟨by rfl, ?_⟩) ?_ ?_
            rotate_left
            ·intro w'
             go_simp
             with_reducible rfl
            rotate_left
            ·simp only [Act.put, List.setIfInBounds_toArray, List.set_cons_zero, List.set_cons_succ, i64_w, i32_w]
             rfl
            refine take_ (i := 15) (N := some 78) (v := ?_) (a' := ?_) #[true, true, true, true, true, true, true, true, true, true, true, false, true, true, true, true, false, false, false, false, false] rfl rfl (take_ofW HT_.out HW_.out (by kernel_rfl)) (fun _ _ _ h => h) (Or.inl ⟨by rfl, ?_⟩) hHeld ?_ ?_
            rotate_left
            ·rintro w' ⟨s0, s1⟩
             go_simp
             with_reducible rfl
            rotate_left
            ·simp only [Act.put, List.setIfInBounds_toArray, List.set_cons_zero, List.set_cons_succ, i64_w, i32_w]
             rfl
            refine join_ (σ := Value × Value) 4 #[true, true, true, true, true, true, true, true, true, true, true, true, true, true, true, true, true, false, false, false, false] (fun s_ => [(74, s_.1), (79, s_.2)]) (fun s_ w' => (w'.cell? (ad300.add (x7_1).toNat) = some (.int .u8 (rd l0 x7_1)) ∧ w'.cell? (ad300.add (x7_1).toNat) = some (.int .u8 (rd l0 x7_1))) ∧ (Kd.R (Kd.int .u8) 5 w' w.heap.size (fun k_ => (w.heap.size ≤ k_) ∧ some k_ ≠ (s_.2 : Value).ownBlock) s_.1 y315) ∧ (Kd.R (Kd.int .u8) 5 w' w.heap.size (fun k_ => (w.heap.size ≤ k_) ∧ some k_ ≠ (s_.1 : Value).ownBlock) s_.2 y319) ∧ (Kd.N k30 30 w' w.heap.size (fun k_ => (w.heap.size ≤ k_) ∧ some k_ ≠ (s_.1 : Value).ownBlock ∧ some k_ ≠ (s_.2 : Value).ownBlock ∧ k_ ≠ gb302) u5 x5_1) ∧ (w'.heap[gb302]? = some (.cells #[.int .i64 (wrap64 (x6_1 + (wrap64 (Int.tmod (rd l0 x7_1) 3)))), .int .i64 (((Int.tdiv (rd l0 x7_1) 3) % 256) % 3), .slice none 0 0, .int .i64 0, .int .i64 0] 30 (0, 0))) ∧ (Below w.heap.size w w')) ?_ ?_
            rotate_left
            ·intro hCont
             refine two_ (i := 11) (j := 16) (Ni := some 74) (Nj := some 79) #[true, true, true, true, true, true, true, true, true, true, true, true, true, true, true, true, false, false, false, false, false] #[true, true, true, true, true, true, true, true, true, true, true, false, true, true, true, true, true, false, false, false, false] rfl rfl rfl rfl (two_of HT_.out (by kernel_rfl)) (by decide) (by decide) (fun K hK => ?_) (fun K hK => ?_)
             ·skip
              refine Kd.R_append_rows_step (Kd.int .u8) (w0 := w) w.heap.size (by rfl) (.const (.slice none 0 0)) (.tmp 73) 22 5 (.int .u8 0) 1 rfl Try.underlying22 info5 rfl (by decide) (by omega) (.slice none 0 0) ([] : List Int) (l1.take ((ji24) : Int).toNat) _ _ _ (fun k_ => (w.heap.size ≤ k_)) (fun _ => False) rfl rfl ?aO ?aR (fun _ _ h => h) (fun _ h => h.elim) ?aF ?aB ?aS ?aL ?_
              (case aR => first | ((repeat (first | exact (Kd.C_below HR314.out HB.out) | (with_reducible refine Kd.C_alloc ?_ _) | (with_reducible refine Kd.C_drewN ?_ _) | (with_reducible refine Kd.C_drew ?_))); done) | (refine Kd.C_cast (show (l1.take ((ji24) : Int).toNat).length = (ji24).toNat from (by rw [List.length_take]; have h_ : ((ji24) : Int) ≤ (l1.length : Int) := of_decide_eq_true (by first | (with_reducible assumption) | assumption); omega)) ?_; (repeat (first | exact (Kd.C_below HR314.out HB.out) | (with_reducible refine Kd.C_alloc ?_ _) | (with_reducible refine Kd.C_drewN ?_ _) | (with_reducible refine Kd.C_drew ?_))); done) | (rw [← show (l1.take ((ji24) : Int).toNat).length = (ji24).toNat from (by rw [List.length_take]; have h_ : ((ji24) : Int) ≤ (l1.length : Int) := of_decide_eq_true (by first | (with_reducible assumption) | assumption); omega)]; repeat (first | exact (Kd.C_below HR314.out HB.out) | (with_reducible refine Kd.C_alloc ?_ _) | (with_reducible refine Kd.C_drewN ?_ _) | (with_reducible refine Kd.C_drew ?_))))
              (case aB => exact (by repeat (first | (with_reducible first | exact HB.out | apply below_alloc | apply pw_below_drewN | apply below_drew1 | refine below_set ?_ GE302.out) | exact HB.out)))
              (case aF => exact (fun k_ hk => (Nat.le_trans (below_size (by repeat (first | (with_reducible first | exact HB.out | apply below_alloc | apply pw_below_drewN | apply below_drew1 | refine below_set ?_ GE302.out) | exact HB.out))) hk)))
              (case aO => exact ((Kd.R_nil _ _ _ _ (fun k_ => (w.heap.size ≤ k_)))))
              (case aS => exact (below_size (by repeat (first | (with_reducible first | exact HB.out | apply below_alloc | apply pw_below_drewN | apply below_drew1 | refine below_set ?_ GE302.out) | exact HB.out))))
              (case aL => have := LMc27.out; have hlx_ := (show (l1.take ((ji24) : Int).toNat).length = (ji24).toNat from (by rw [List.length_take]; have h_ : ((ji24) : Int) ≤ (l1.length : Int) := of_decide_eq_true (by first | (with_reducible assumption) | assumption); omega)); omega)
              intro v316 w36 ho hb hg hat
              rw [← Ny315.out] at ho
              have n0_ := Aside0.mk (Kd.N_afterv (Kd.N_apart_nil (by (with_reducible repeat (first | apply Kd.N_alloc | apply Kd.N_drewN | apply Kd.N_drew)); exact HO_5.out)) hg hat)
              have n1_ := Aside0.mk (blk_grown (g := gb302) (o := .cells #[.int .i64 (wrap64 (x6_1 + (wrap64 (Int.tmod (rd l0 x7_1) 3)))), .int .i64 (((Int.tdiv (rd l0 x7_1) 3) % 256) % 3), .slice none 0 0, .int .i64 0, .int .i64 0] 30 (0, 0)) (by (with_reducible repeat (first | refine blk_drewN ?_ _ | refine blk_drew ?_ | refine blk_alloc ?_ _)); exact BK302.out) hg (by simp [Value.ownBlock]))
              have n2_ := Aside0.mk (hb)
              have n3_ := Aside0.mk (ho)
              clear HO_5 BK302 HB; have HO_5 := n0_; have BK302 := n1_; have HB := n2_; have HO317 := n3_; clear n0_ n1_ n2_ n3_ ho hb hg hat; refine hK.out _ _ ⟨((HB.out.cell (World.block_lt_of_cell? w _ hw313_0)).trans hw313_0), ((HB.out.cell (World.block_lt_of_cell? w _ hw318_0)).trans hw318_0)⟩ (fun hHeld => ?_)
              clear hK K; refine norm_ (a' := ?_) ?_ ?_
              rotate_left
              ·show Act.put _ (some 74) _ = _
               simp only [Act.put, List.setIfInBounds_toArray, List.set_cons_zero, List.set_cons_succ, i64_w, i32_w]
               rfl
              refine one_ (i := 16) (N := some 79) #[true, true, true, true, true, true, true, true, true, true, true, true, true, true, true, true, true, false, false, false, false] rfl rfl (one_of HT_.out (by kernel_rfl)) (by decide) (fun K hK => ?_)
              refine Kd.R_lit_step (Kd.int .u8) _ 5 ?hg (N := 79) ?hd (xs := ([rd l0 x7_1] : List Int)) (inner := [.int .u8 (rd l0 x7_1)]) (ok := fun _ => True) (okp := fun _ => True) ?hr ?hp (fun _ hk => hk) trivial (Below.refl _ _) (Nat.le_refl _) (by simp) ?_; (case hd => rfl); (case hg => rfl); (case hr => first | (go_simp; done) | (go_simp; rfl)); (case hp => exact (Reps.one (show Kd.M (Kd.int .u8) _ _ _ (rd l0 x7_1) [.int .u8 (rd l0 x7_1)] from rfl) (Reps.none _ _)))
              intro v320 w37 ho38 hb hg_ hnew_
              clear hg_ hnew_; (first | rw [← Ny319.out] at ho38 | (simp only [Int.reduceToNat] at ho38; rw [← Ny319.out] at ho38))
              have n0_ := Aside0.mk (Kd.N_elder' (by (with_reducible repeat (first | apply Kd.N_alloc | apply Kd.N_drewN | apply Kd.N_drew)); exact HO_5.out) (Kd.R_base ho38) hb)
              have n1_ := Aside0.mk (Kd.R_elder' (by (with_reducible repeat (first | apply Kd.R_alloc | apply Kd.R_drewN | apply Kd.R_drew)); exact HO317.out) (Kd.R_base ho38) hb)
              have n2_ := Aside0.mk (Kd.R_lower (Kd.R_new' (Kd.R_newM (M := fun k_ => (w.heap.size ≤ k_)) ho38 (below_size (by repeat (first | (with_reducible first | exact HB.out | apply below_alloc | apply pw_below_drewN | apply below_drew1 | refine below_set ?_ GE302.out) | exact HB.out))) (fun k_ h_ => h_)) (Kd.R_lt (by (with_reducible repeat (first | apply Kd.R_alloc | apply Kd.R_drewN | apply Kd.R_drew)); exact HO317.out))) (below_size (by repeat (first | (with_reducible first | exact HB.out | apply below_alloc | apply pw_below_drewN | apply below_drew1 | refine below_set ?_ GE302.out) | exact HB.out))))
              have n3_ := Aside0.mk (blk_below (g := gb302) (o := .cells #[.int .i64 (wrap64 (x6_1 + (wrap64 (Int.tmod (rd l0 x7_1) 3)))), .int .i64 (((Int.tdiv (rd l0 x7_1) 3) % 256) % 3), .slice none 0 0, .int .i64 0, .int .i64 0] 30 (0, 0)) (by (with_reducible repeat (first | refine blk_drewN ?_ _ | refine blk_drew ?_ | refine blk_alloc ?_ _)); exact BK302.out) hb)
              have n4_ := Aside0.mk (below_step (by repeat (first | (with_reducible first | exact HB.out | apply below_alloc | apply pw_below_drewN | apply below_drew1 | refine below_set ?_ GE302.out) | exact HB.out)) hb)
              clear HO_5 HO317 BK302 HB; have HO_5 := n0_; have HO317 := n1_; have HO321 := n2_; have BK302 := n3_; have HB := n4_; clear n0_ n1_ n2_ n3_ n4_ hb ho38; refine hK.out _ _ ⟨((HB.out.cell (World.block_lt_of_cell? w _ hw313_0)).trans hw313_0), ((HB.out.cell (World.block_lt_of_cell? w _ hw318_0)).trans hw318_0)⟩ (fun hHeld => ?_)
              clear hK K; refine norm_ (a' := ?_) ?_ ?_
              rotate_left
              ·show Act.put _ (some 79) _ = _
               simp only [Act.put, List.setIfInBounds_toArray, List.set_cons_zero, List.set_cons_succ, i64_w, i32_w]
               rfl
              exact norm_ (by simp only [putAll, Act.put, List.setIfInBounds_toArray, List.set_cons_zero, List.set_cons_succ]) (hCont (v316, v320) _ ⟨hHeld, (by (with_reducible repeat (first | apply Kd.R_alloc | apply Kd.R_drewN | apply Kd.R_drew)); exact HO317.out), (by (with_reducible repeat (first | apply Kd.R_alloc | apply Kd.R_drewN | apply Kd.R_drew)); exact Kd.R_mono HO321.out (fun _ hk => ⟨hk.1.1, hk.2⟩)), (by (with_reducible repeat (first | apply Kd.N_alloc | apply Kd.N_drewN | apply Kd.N_drew)); exact Kd.N_mono HO_5.out (fun _ hk => ⟨hk.1.1.1, ⟨hk.1.2, ⟨hk.2, hk.1.1.2⟩⟩⟩)), (by (with_reducible repeat (first | refine blk_drewN ?_ _ | refine blk_drew ?_ | refine blk_alloc ?_ _)); exact BK302.out), (by repeat (first | (with_reducible first | exact HB.out | apply below_alloc | apply pw_below_drewN | apply below_drew1 | refine below_set ?_ GE302.out) | exact HB.out))⟩)
             ·skip
              refine Kd.R_lit_step (Kd.int .u8) _ 5 ?hg (N := 79) ?hd (xs := ([rd l0 x7_1] : List Int)) (inner := [.int .u8 (rd l0 x7_1)]) (ok := fun _ => True) (okp := fun _ => True) ?hr ?hp (fun _ hk => hk) trivial (Below.refl _ _) (Nat.le_refl _) (by simp) ?_; (case hd => rfl); (case hg => rfl); (case hr => first | (go_simp; done) | (go_simp; rfl)); (case hp => exact (Reps.one (show Kd.M (Kd.int .u8) _ _ _ (rd l0 x7_1) [.int .u8 (rd l0 x7_1)] from rfl) (Reps.none _ _)))
              intro v320 w36 ho37 hb hg_ hnew_
              clear hg_ hnew_; (first | rw [← Ny319.out] at ho37 | (simp only [Int.reduceToNat] at ho37; rw [← Ny319.out] at ho37))
              have n0_ := Aside0.mk (Kd.N_elder' (by (with_reducible repeat (first | apply Kd.N_alloc | apply Kd.N_drewN | apply Kd.N_drew)); exact HO_5.out) (Kd.R_base ho37) hb)
              have n1_ := Aside0.mk (Kd.R_lower (Kd.R_newM (M := fun k_ => (w.heap.size ≤ k_)) ho37 (below_size (by repeat (first | (with_reducible first | exact HB.out | apply below_alloc | apply pw_below_drewN | apply below_drew1 | refine below_set ?_ GE302.out) | exact HB.out))) (fun k_ h_ => h_)) (below_size (by repeat (first | (with_reducible first | exact HB.out | apply below_alloc | apply pw_below_drewN | apply below_drew1 | refine below_set ?_ GE302.out) | exact HB.out))))
              have n2_ := Aside0.mk (blk_below (g := gb302) (o := .cells #[.int .i64 (wrap64 (x6_1 + (wrap64 (Int.tmod (rd l0 x7_1) 3)))), .int .i64 (((Int.tdiv (rd l0 x7_1) 3) % 256) % 3), .slice none 0 0, .int .i64 0, .int .i64 0] 30 (0, 0)) (by (with_reducible repeat (first | refine blk_drewN ?_ _ | refine blk_drew ?_ | refine blk_alloc ?_ _)); exact BK302.out) hb)
              have n3_ := Aside0.mk (below_step (by repeat (first | (with_reducible first | exact HB.out | apply below_alloc | apply pw_below_drewN | apply below_drew1 | refine below_set ?_ GE302.out) | exact HB.out)) hb)
              clear HO_5 BK302 HB; have HO_5 := n0_; have HO321 := n1_; have BK302 := n2_; have HB := n3_; clear n0_ n1_ n2_ n3_ hb ho37; refine hK.out _ _ ⟨((HB.out.cell (World.block_lt_of_cell? w _ hw313_0)).trans hw313_0), ((HB.out.cell (World.block_lt_of_cell? w _ hw318_0)).trans hw318_0)⟩ (fun hHeld => ?_)
              clear hK K; refine norm_ (a' := ?_) ?_ ?_
              rotate_left
              ·show Act.put _ (some 79) _ = _
               simp only [Act.put, List.setIfInBounds_toArray, List.set_cons_zero, List.set_cons_succ, i64_w, i32_w]
               rfl
              refine one_ (i := 11) (N := some 74) #[true, true, true, true, true, true, true, true, true, true, true, true, true, true, true, true, true, false, false, false, false] rfl rfl (one_of HT_.out (by kernel_rfl)) (by decide) (fun K hK => ?_)
              refine Kd.R_append_rows_step (Kd.int .u8) (w0 := w) w.heap.size (by rfl) (.const (.slice none 0 0)) (.tmp 73) 22 5 (.int .u8 0) 1 rfl Try.underlying22 info5 rfl (by decide) (by omega) (.slice none 0 0) ([] : List Int) (l1.take ((ji24) : Int).toNat) _ _ _ (fun k_ => (w.heap.size ≤ k_) ∧ some k_ ≠ (v320 : Value).ownBlock) (fun _ => False) rfl rfl ?aO ?aR (fun _ _ h => h) (fun _ h => h.elim) ?aF ?aB ?aS ?aL ?_
              (case aR => first | ((repeat (first | exact (Kd.C_below HR314.out HB.out) | (with_reducible refine Kd.C_alloc ?_ _) | (with_reducible refine Kd.C_drewN ?_ _) | (with_reducible refine Kd.C_drew ?_))); done) | (refine Kd.C_cast (show (l1.take ((ji24) : Int).toNat).length = (ji24).toNat from (by rw [List.length_take]; have h_ : ((ji24) : Int) ≤ (l1.length : Int) := of_decide_eq_true (by first | (with_reducible assumption) | assumption); omega)) ?_; (repeat (first | exact (Kd.C_below HR314.out HB.out) | (with_reducible refine Kd.C_alloc ?_ _) | (with_reducible refine Kd.C_drewN ?_ _) | (with_reducible refine Kd.C_drew ?_))); done) | (rw [← show (l1.take ((ji24) : Int).toNat).length = (ji24).toNat from (by rw [List.length_take]; have h_ : ((ji24) : Int) ≤ (l1.length : Int) := of_decide_eq_true (by first | (with_reducible assumption) | assumption); omega)]; repeat (first | exact (Kd.C_below HR314.out HB.out) | (with_reducible refine Kd.C_alloc ?_ _) | (with_reducible refine Kd.C_drewN ?_ _) | (with_reducible refine Kd.C_drew ?_))))
              (case aB => exact (by repeat (first | (with_reducible first | exact HB.out | apply below_alloc | apply pw_below_drewN | apply below_drew1 | refine below_set ?_ GE302.out) | exact HB.out)))
              (case aF => exact (fun k_ hk => ⟨(Nat.le_trans (below_size (by repeat (first | (with_reducible first | exact HB.out | apply below_alloc | apply pw_below_drewN | apply below_drew1 | refine below_set ?_ GE302.out) | exact HB.out))) hk), Kd.fresh' (Kd.R_lt (by (with_reducible repeat (first | apply Kd.R_alloc | apply Kd.R_drewN | apply Kd.R_drew)); exact HO321.out)) k_ hk⟩))
              (case aO => exact ((Kd.R_nil _ _ _ _ (fun k_ => (w.heap.size ≤ k_) ∧ some k_ ≠ (v320 : Value).ownBlock))))
              (case aS => exact (below_size (by repeat (first | (with_reducible first | exact HB.out | apply below_alloc | apply pw_below_drewN | apply below_drew1 | refine below_set ?_ GE302.out) | exact HB.out))))
              (case aL => have := LMc27.out; have hlx_ := (show (l1.take ((ji24) : Int).toNat).length = (ji24).toNat from (by rw [List.length_take]; have h_ : ((ji24) : Int) ≤ (l1.length : Int) := of_decide_eq_true (by first | (with_reducible assumption) | assumption); omega)); omega)
              intro v316 w38 ho hb hg hat
              rw [← Ny315.out] at ho
              have n0_ := Aside0.mk (Kd.N_afterv (Kd.N_apart_nil (by (with_reducible repeat (first | apply Kd.N_alloc | apply Kd.N_drewN | apply Kd.N_drew)); exact HO_5.out)) hg hat)
              have n1_ := Aside0.mk (blk_grown (g := gb302) (o := .cells #[.int .i64 (wrap64 (x6_1 + (wrap64 (Int.tmod (rd l0 x7_1) 3)))), .int .i64 (((Int.tdiv (rd l0 x7_1) 3) % 256) % 3), .slice none 0 0, .int .i64 0, .int .i64 0] 30 (0, 0)) (by (with_reducible repeat (first | refine blk_drewN ?_ _ | refine blk_drew ?_ | refine blk_alloc ?_ _)); exact BK302.out) hg (by simp [Value.ownBlock]))
              have n2_ := Aside0.mk (Kd.R_after (Kd.R_apart_nil (by (with_reducible repeat (first | apply Kd.R_alloc | apply Kd.R_drewN | apply Kd.R_drew)); exact HO321.out)) hg hat)
              have n3_ := Aside0.mk (hb)
              have n4_ := Aside0.mk (ho)
              clear HO_5 BK302 HO321 HB; have HO_5 := n0_; have BK302 := n1_; have HO321 := n2_; have HB := n3_; have HO317 := n4_; clear n0_ n1_ n2_ n3_ n4_ ho hb hg hat; refine hK.out _ _ ⟨((HB.out.cell (World.block_lt_of_cell? w _ hw313_0)).trans hw313_0), ((HB.out.cell (World.block_lt_of_cell? w _ hw318_0)).trans hw318_0)⟩ (fun hHeld => ?_)
              clear hK K; refine norm_ (a' := ?_) ?_ ?_
              rotate_left
              ·show Act.put _ (some 74) _ = _
               simp only [Act.put, List.setIfInBounds_toArray, List.set_cons_zero, List.set_cons_succ, i64_w, i32_w]
               rfl
              exact norm_ (by simp only [putAll, Act.put, List.setIfInBounds_toArray, List.set_cons_zero, List.set_cons_succ]) (hCont (v316, v320) _ ⟨hHeld, (by (with_reducible repeat (first | apply Kd.R_alloc | apply Kd.R_drewN | apply Kd.R_drew)); exact HO317.out), (by (with_reducible repeat (first | apply Kd.R_alloc | apply Kd.R_drewN | apply Kd.R_drew)); exact Kd.R_mono HO321.out (fun _ hk => ⟨hk.1.1, hk.2⟩)), (by (with_reducible repeat (first | apply Kd.N_alloc | apply Kd.N_drewN | apply Kd.N_drew)); exact Kd.N_mono HO_5.out (fun _ hk => ⟨hk.1.1.1, ⟨hk.2, ⟨hk.1.2, hk.1.1.2⟩⟩⟩)), (by (with_reducible repeat (first | refine blk_drewN ?_ _ | refine blk_drew ?_ | refine blk_alloc ?_ _)); exact BK302.out), (by repeat (first | (with_reducible first | exact HB.out | apply below_alloc | apply pw_below_drewN | apply below_drew1 | refine below_set ?_ GE302.out) | exact HB.out))⟩)
            rintro ⟨v316, v320⟩ w39 ⟨hS_, h0_, h1_, h2_, h3_, h4_⟩
            have n0_ : Aside0 (Kd.R (Kd.int .u8) 5 w39 w.heap.size (fun k_ => (w.heap.size ≤ k_) ∧ some k_ ≠ (v320 : Value).ownBlock) v316 y315) := ⟨h0_⟩
            have n1_ : Aside0 (Kd.R (Kd.int .u8) 5 w39 w.heap.size (fun k_ => (w.heap.size ≤ k_) ∧ some k_ ≠ (v316 : Value).ownBlock) v320 y319) := ⟨h1_⟩
            have n2_ : Aside0 (Kd.N k30 30 w39 w.heap.size (fun k_ => (w.heap.size ≤ k_) ∧ some k_ ≠ (v316 : Value).ownBlock ∧ some k_ ≠ (v320 : Value).ownBlock ∧ k_ ≠ gb302) u5 x5_1) := ⟨h2_⟩
            have n3_ : Aside0 (w39.heap[gb302]? = some (.cells #[.int .i64 (wrap64 (x6_1 + (wrap64 (Int.tmod (rd l0 x7_1) 3)))), .int .i64 (((Int.tdiv (rd l0 x7_1) 3) % 256) % 3), .slice none 0 0, .int .i64 0, .int .i64 0] 30 (0, 0))) := ⟨h3_⟩
            have n4_ : Aside0 (Below w.heap.size w w39) := ⟨h4_⟩
            clear HO_5 BK302 HB h0_ h1_ h2_ h3_ h4_; have HO317 := n0_; have HO321 := n1_; have HO_5 := n2_; have BK302 := n3_; have HB := n4_; clear n0_ n1_ n2_ n3_ n4_; have hHeld : w39.cell? (ad300.add (x7_1).toNat) = some (.int .u8 (rd l0 x7_1)) ∧ w39.cell? (ad300.add (x7_1).toNat) = some (.int .u8 (rd l0 x7_1)) := hS_
            obtain ⟨Ao41, co41, eo41⟩ := Kd.R_slice HO321.out; (first | subst eo41 | (injection eo41 with f1_ f2_ f3_; have f4_ := f1_.symm; have f5_ := f3_.symm; clear f1_ f2_ f3_; subst f4_; subst f5_))
            refine norm_ (a' := ?_) ?_ ?_
            rotate_left
            ·simp only [putAll, Act.put, List.setIfInBounds_toArray, List.set_cons_zero, List.set_cons_succ]
             rfl
            refine one_ (i := 17) (N := some 80) #[true, true, true, true, true, true, true, true, true, true, true, true, true, true, true, true, true, true, false, false, false] rfl rfl (one_of HT_.out (by kernel_rfl)) (by decide) (fun K hK => ?_)
            refine Kd.R_append_rows_step (Kd.int .u8) (w0 := w) w.heap.size (by rfl) (.tmp 74) (.tmp 79) 22 5 (.int .u8 0) 1 rfl Try.underlying22 info5 rfl (by decide) (by omega) v316 y315 y319 _ _ _ (fun k_ => (w.heap.size ≤ k_) ∧ some k_ ≠ (.slice Ao41 y319.length co41 : Value).ownBlock) (fun _ => False) rfl rfl ?aO ?aR (fun _ _ h => h) (fun _ h => h.elim) ?aF ?aB ?aS ?aL ?_
            (case aR => repeat (first | exact (Kd.R_reads' HO321.out).2.2 | (with_reducible refine Kd.C_alloc ?_ _) | (with_reducible refine Kd.C_drewN ?_ _) | (with_reducible refine Kd.C_drew ?_)))
            (case aB => exact (by repeat (first | (with_reducible first | exact HB.out | apply below_alloc | apply pw_below_drewN | apply below_drew1 | refine below_set ?_ GE302.out) | exact HB.out)))
            (case aF => exact (fun k_ hk => ⟨(Nat.le_trans (below_size (by repeat (first | (with_reducible first | exact HB.out | apply below_alloc | apply pw_below_drewN | apply below_drew1 | refine below_set ?_ GE302.out) | exact HB.out))) hk), Kd.fresh' (Kd.R_lt (by (with_reducible repeat (first | apply Kd.R_alloc | apply Kd.R_drewN | apply Kd.R_drew)); exact HO321.out)) k_ hk⟩))
            (case aO => exact (by (with_reducible repeat (first | apply Kd.R_alloc | apply Kd.R_drewN | apply Kd.R_drew)); exact HO317.out))
            (case aS => exact (below_size (by repeat (first | (with_reducible first | exact HB.out | apply below_alloc | apply pw_below_drewN | apply below_drew1 | refine below_set ?_ GE302.out) | exact HB.out))))
            (case aL => have := LMc28.out; omega)
            intro v323 w40 ho hb hg hat
            rw [← Ny322.out] at ho
            have n0_ := Aside0.mk (Kd.N_afterv (ok := (fun k_ => (w.heap.size ≤ k_) ∧ some k_ ≠ (.slice Ao41 y319.length co41 : Value).ownBlock ∧ k_ ≠ gb302)) (by (with_reducible repeat (first | apply Kd.N_alloc | apply Kd.N_drewN | apply Kd.N_drew)); exact Kd.N_mono HO_5.out (fun _ hk => ⟨⟨hk.1, ⟨hk.2.2.1, hk.2.2.2⟩⟩, hk.2.1⟩)) hg hat)
            have n1_ := Aside0.mk (blk_grown (g := gb302) (o := .cells #[.int .i64 (wrap64 (x6_1 + (wrap64 (Int.tmod (rd l0 x7_1) 3)))), .int .i64 (((Int.tdiv (rd l0 x7_1) 3) % 256) % 3), .slice none 0 0, .int .i64 0, .int .i64 0] 30 (0, 0)) (by (with_reducible repeat (first | refine blk_drewN ?_ _ | refine blk_drew ?_ | refine blk_alloc ?_ _)); exact BK302.out) hg (Kd.R_ne HO317.out BK302.out (by decide)))
            have n2_ := Aside0.mk (Kd.R_after (ok := (fun k_ => (w.heap.size ≤ k_))) (by (with_reducible repeat (first | apply Kd.R_alloc | apply Kd.R_drewN | apply Kd.R_drew)); exact HO321.out) hg hat)
            have n3_ := Aside0.mk (hb)
            have n4_ := Aside0.mk (ho)
            clear HO_5 BK302 HO321 HB HO317; have HO_5 := n0_; have BK302 := n1_; have HO321 := n2_; have HB := n3_; have HO324 := n4_; clear n0_ n1_ n2_ n3_ n4_ ho hb hg hat; obtain ⟨Ao42, co42, eo42⟩ := Kd.R_slice HO324.out; (first | subst eo42 | (injection eo42 with f1_ f2_ f3_; have f4_ := f1_.symm; have f5_ := f3_.symm; clear f1_ f2_ f3_; subst f4_; subst f5_))
            refine hK.out _ _ ⟨((HB.out.cell (World.block_lt_of_cell? w _ hw313_0)).trans hw313_0), ((HB.out.cell (World.block_lt_of_cell? w _ hw318_0)).trans hw318_0)⟩ (fun hHeld => ?_)
            clear hK K; refine norm_ (a' := ?_) ?_ ?_
            rotate_left
            ·show Act.put _ (some 80) _ = _
             simp only [Act.put, List.setIfInBounds_toArray, List.set_cons_zero, List.set_cons_succ, i64_w, i32_w]
             rfl
            refine one_ (i := 18) (N := some 81) #[true, true, true, true, true, true, true, true, true, true, true, true, true, true, true, true, true, true, true, false, false] rfl rfl (one_of HT_.out (by kernel_rfl)) (by decide) (fun K hK => ?_)
            refine goes_ Try.func33 (by kernel_rfl) rfl #[.slice Ao42 y322.length co42] (by rfl) rfl rfl (by (try simp only [List.map_toArray, List.map_cons, List.map_nil]); first | done | rfl | (simp only [List.length_drop, List.length_take]; rfl)) ?_
            with_reducible refine (repriseseat_Bytes.calls k1 _ _ y322 t325 _ ?side1 ?side2 A29.out).mono ?_
            (case side1 => repeat (first | exact (Kd.R_reads' HO324.out).2.2 | (with_reducible refine Kd.C_alloc ?_ _) | (with_reducible refine Kd.C_drewN ?_ _) | (with_reducible refine Kd.C_drew ?_)))
            (case side2 => exact (Kd.R_reads' HO324.out).2.1)
            rintro e w43 ⟨v326, rfl, ho0, hb⟩
            refine ⟨_, rfl, ?_⟩
            have n0_ := Aside0.mk (Kd.N_elder' (by (with_reducible repeat (first | apply Kd.N_alloc | apply Kd.N_drewN | apply Kd.N_drew)); exact HO_5.out) (Kd.R_base ho0) hb)
            have n1_ := Aside0.mk (Kd.R_elder' (by (with_reducible repeat (first | apply Kd.R_alloc | apply Kd.R_drewN | apply Kd.R_drew)); exact HO321.out) (Kd.R_base ho0) hb)
            have n2_ := Aside0.mk (Kd.R_elder' (by (with_reducible repeat (first | apply Kd.R_alloc | apply Kd.R_drewN | apply Kd.R_drew)); exact HO324.out) (Kd.R_base ho0) hb)
            have n3_ := Aside0.mk (Kd.R_lower (Kd.R_new' (Kd.R_new' (Kd.R_newM (M := fun k_ => (w.heap.size ≤ k_)) ho0 (below_size (by repeat (first | (with_reducible first | exact HB.out | apply below_alloc | apply pw_below_drewN | apply below_drew1 | refine below_set ?_ GE302.out) | exact HB.out))) (fun k_ h_ => h_)) (Kd.R_lt (by (with_reducible repeat (first | apply Kd.R_alloc | apply Kd.R_drewN | apply Kd.R_drew)); exact HO321.out))) (Kd.R_lt (by (with_reducible repeat (first | apply Kd.R_alloc | apply Kd.R_drewN | apply Kd.R_drew)); exact HO324.out))) (below_size (by repeat (first | (with_reducible first | exact HB.out | apply below_alloc | apply pw_below_drewN | apply below_drew1 | refine below_set ?_ GE302.out) | exact HB.out))))
            have n4_ := Aside0.mk (blk_below (g := gb302) (o := .cells #[.int .i64 (wrap64 (x6_1 + (wrap64 (Int.tmod (rd l0 x7_1) 3)))), .int .i64 (((Int.tdiv (rd l0 x7_1) 3) % 256) % 3), .slice none 0 0, .int .i64 0, .int .i64 0] 30 (0, 0)) (by (with_reducible repeat (first | refine blk_drewN ?_ _ | refine blk_drew ?_ | refine blk_alloc ?_ _)); exact BK302.out) hb)
            have n5_ := Aside0.mk (below_step (by repeat (first | (with_reducible first | exact HB.out | apply below_alloc | apply pw_below_drewN | apply below_drew1 | refine below_set ?_ GE302.out) | exact HB.out)) hb)
            clear HO_5 HO321 HO324 BK302 HB; have HO_5 := n0_; have HO321 := n1_; have HO324 := n2_; have HO327 := n3_; have BK302 := n4_; have HB := n5_; clear n0_ n1_ n2_ n3_ n4_ n5_; (try clear hb)
            (try clear hb2)
            (try clear hk)
            (try clear hi)
            (try clear ho0)
            obtain ⟨Ao44, co44, eo44⟩ := Kd.R_slice HO327.out; (first | subst eo44 | (injection eo44 with f1_ f2_ f3_; have f4_ := f1_.symm; have f5_ := f3_.symm; clear f1_ f2_ f3_; subst f4_; subst f5_))
            refine hK.out _ _ ⟨((HB.out.cell (World.block_lt_of_cell? w _ hw313_0)).trans hw313_0), ((HB.out.cell (World.block_lt_of_cell? w _ hw318_0)).trans hw318_0)⟩ (fun hHeld => ?_)
            clear hK K; refine norm_ (a' := ?_) ?_ ?_
            rotate_left
            ·show Act.put _ (some 81) _ = _
             simp only [Act.put, List.setIfInBounds_toArray, List.set_cons_zero, List.set_cons_succ, i64_w, i32_w]
             rfl
            refine pure_ (i := 19) (N := some 82) (v := ?_) (a' := ?_) #[true, true, true, true, true, true, true, true, true, true, true, true, true, true, true, true, true, true, true, true, false] rfl rfl (any_of HT_.out (by kernel_rfl)) (fun _ _ _ h => h) (Or.inl ⟨by rfl, ?_⟩) ?_ ?_
            rotate_left
            ·intro w'
             go_simp
             with_reducible rfl
            rotate_left
            ·simp only [Act.put, List.setIfInBounds_toArray, List.set_cons_zero, List.set_cons_succ, i64_w, i32_w]
             rfl
            refine one_ (i := 20) (N := none) #[true, true, true, true, true, true, true, true, true, true, true, true, true, true, true, true, true, true, true, true, true] rfl rfl (one_of HT_.out (by kernel_rfl)) (by decide) (fun K hK => ?_)
            have hs45 : w43.cell? ⟨gb302, 2, none⟩ = some (.slice none 0 0) := (blk_cell BK302.out 2).trans rfl
            have hfs45 := blk_frozen BK302.out 2; refine skip_ (w1 := ?_) (by rfl) rfl ?_ ?_
            rotate_left
            ·go_simp
             rfl
            refine hK.out _ _ ⟨((cell_far (p := ⟨gb302, _, none⟩) (by first | exact Nat.ne_of_lt (Nat.lt_of_lt_of_le (by have := World.block_lt_of_cell? _ _ hw313_0; first | rwa [add_block] at this | exact this) GW302.out) | (rw [add_block]; exact Nat.ne_of_lt (Nat.lt_of_lt_of_le (by have := World.block_lt_of_cell? _ _ hw313_0; first | rwa [add_block] at this | exact this) GW302.out)) | (show (Addr.add _ _).block ≠ _; rw [add_block]; exact Nat.ne_of_lt (Nat.lt_of_lt_of_le (by have := World.block_lt_of_cell? _ _ hw313_0; first | rwa [add_block] at this | exact this) GW302.out)) | (dsimp only; exact Nat.ne_of_lt (Nat.lt_of_lt_of_le (by have := World.block_lt_of_cell? _ _ hw313_0; first | rwa [add_block] at this | exact this) GW302.out))) _).trans (hHeld.1)), ((cell_far (p := ⟨gb302, _, none⟩) (by first | exact Nat.ne_of_lt (Nat.lt_of_lt_of_le (by have := World.block_lt_of_cell? _ _ hw318_0; first | rwa [add_block] at this | exact this) GW302.out) | (rw [add_block]; exact Nat.ne_of_lt (Nat.lt_of_lt_of_le (by have := World.block_lt_of_cell? _ _ hw318_0; first | rwa [add_block] at this | exact this) GW302.out)) | (show (Addr.add _ _).block ≠ _; rw [add_block]; exact Nat.ne_of_lt (Nat.lt_of_lt_of_le (by have := World.block_lt_of_cell? _ _ hw318_0; first | rwa [add_block] at this | exact this) GW302.out)) | (dsimp only; exact Nat.ne_of_lt (Nat.lt_of_lt_of_le (by have := World.block_lt_of_cell? _ _ hw318_0; first | rwa [add_block] at this | exact this) GW302.out))) _).trans (hHeld.2))⟩ (fun hHeld => ?_)
            clear hK K; refine done_ (done_of HT_.out (by kernel_rfl)) ?_
            have n0_ : Aside0 (Kd.N k30 30 (w43.setCell ⟨gb302, 2, none⟩ (.slice Ao44 t325.length co44)) w.heap.size (fun k_ => (w.heap.size ≤ k_) ∧ some k_ ≠ (.slice Ao41 y319.length co41 : Value).ownBlock ∧ some k_ ≠ (.slice Ao42 y322.length co42 : Value).ownBlock ∧ some k_ ≠ (.slice Ao44 t325.length co44 : Value).ownBlock ∧ k_ ≠ gb302) u5 x5_1) := ⟨by (with_reducible repeat (first | apply Kd.N_alloc | apply Kd.N_drewN | apply Kd.N_drew)); exact Kd.N_mono (Kd.N_far (p := ⟨gb302, 2, none⟩) (Kd.N_mono HO_5.out (fun k_ hk => (⟨hk, hk.1.1.2.2⟩ : _ ∧ k_ ≠ gb302))) (fun _ hk => hk.2) (.slice Ao44 t325.length co44)) (fun _ hk => ⟨hk.1.1.1.1, ⟨hk.1.1.1.2.1, ⟨hk.1.1.2, ⟨hk.1.2, hk.1.1.1.2.2⟩⟩⟩⟩)⟩
            have n1_ : Aside0 (Kd.R (Kd.int .u8) 5 (w43.setCell ⟨gb302, 2, none⟩ (.slice Ao44 t325.length co44)) w.heap.size (fun k_ => (w.heap.size ≤ k_) ∧ some k_ ≠ (.slice Ao42 y322.length co42 : Value).ownBlock ∧ some k_ ≠ (.slice Ao44 t325.length co44 : Value).ownBlock) (.slice Ao41 y319.length co41) y319) := ⟨by (with_reducible repeat (first | apply Kd.R_alloc | apply Kd.R_drewN | apply Kd.R_drew)); exact Kd.R_mono (Kd.R_far (p := ⟨gb302, 2, none⟩) (Kd.R_types HO321.out BK302.out (by decide)) (fun _ hk => hk.2) (.slice Ao44 t325.length co44)) (fun _ hk => ⟨hk.1.1.1, ⟨hk.1.1.2, hk.1.2⟩⟩)⟩
            have n2_ : Aside0 (Kd.R (Kd.int .u8) 5 (w43.setCell ⟨gb302, 2, none⟩ (.slice Ao44 t325.length co44)) w.heap.size (fun k_ => (w.heap.size ≤ k_) ∧ some k_ ≠ (.slice Ao41 y319.length co41 : Value).ownBlock ∧ some k_ ≠ (.slice Ao44 t325.length co44 : Value).ownBlock) (.slice Ao42 y322.length co42) y322) := ⟨by (with_reducible repeat (first | apply Kd.R_alloc | apply Kd.R_drewN | apply Kd.R_drew)); exact Kd.R_mono (Kd.R_far (p := ⟨gb302, 2, none⟩) (Kd.R_types HO324.out BK302.out (by decide)) (fun _ hk => hk.2) (.slice Ao44 t325.length co44)) (fun _ hk => ⟨hk.1.1.1, ⟨hk.1.1.2, hk.1.2⟩⟩)⟩
            have n3_ : Aside0 (Kd.R (Kd.int .u8) 5 (w43.setCell ⟨gb302, 2, none⟩ (.slice Ao44 t325.length co44)) w.heap.size (fun k_ => (w.heap.size ≤ k_) ∧ some k_ ≠ (.slice Ao41 y319.length co41 : Value).ownBlock ∧ some k_ ≠ (.slice Ao42 y322.length co42 : Value).ownBlock) (.slice Ao44 t325.length co44) t325) := ⟨by (with_reducible repeat (first | apply Kd.R_alloc | apply Kd.R_drewN | apply Kd.R_drew)); exact Kd.R_mono (Kd.R_far (p := ⟨gb302, 2, none⟩) (Kd.R_types HO327.out BK302.out (by decide)) (fun _ hk => hk.2) (.slice Ao44 t325.length co44)) (fun _ hk => ⟨hk.1.1.1.1, ⟨hk.1.1.2, hk.1.2⟩⟩)⟩
            have n4_ : Aside0 ((w43.setCell ⟨gb302, 2, none⟩ (.slice Ao44 t325.length co44)).heap[gb302]? = some (.cells #[.int .i64 (wrap64 (x6_1 + (wrap64 (Int.tmod (rd l0 x7_1) 3)))), .int .i64 (((Int.tdiv (rd l0 x7_1) 3) % 256) % 3), .slice Ao44 t325.length co44, .int .i64 0, .int .i64 0] 30 (0, 0))) := ⟨by (with_reducible repeat (first | refine blk_drewN ?_ _ | refine blk_drew ?_ | refine blk_alloc ?_ _)); refine blk_put (cs := #[.int .i64 (wrap64 (x6_1 + (wrap64 (Int.tmod (rd l0 x7_1) 3)))), .int .i64 (((Int.tdiv (rd l0 x7_1) 3) % 256) % 3), .slice none 0 0, .int .i64 0, .int .i64 0]) ?_ 2 _ rfl; (with_reducible repeat (first | refine blk_drewN ?_ _ | refine blk_drew ?_ | refine blk_alloc ?_ _)); exact BK302.out⟩
            have n5_ : Aside0 (Below w.heap.size w (w43.setCell ⟨gb302, 2, none⟩ (.slice Ao44 t325.length co44))) := ⟨by repeat (first | (with_reducible first | exact HB.out | apply below_alloc | apply pw_below_drewN | apply below_drew1 | refine below_set ?_ GE302.out) | exact HB.out)⟩
            (try clear HO_5)
            (try clear HO321)
            (try clear HO324)
            (try clear HO327)
            (try clear BK302)
            (try clear HB)
            generalize (w43.setCell ⟨gb302, 2, none⟩ (.slice Ao44 t325.length co44)) = w46 at n0_ n1_ n2_ n3_ n4_ n5_ ⊢
            have HO_5 := n0_; have HO321 := n1_; have HO324 := n2_; have HO327 := n3_; have BK302 := n4_; have HB := n5_; clear n0_ n1_ n2_ n3_ n4_ n5_; have hcz47_0 : w46.cell? ⟨gb302, 0, none⟩ = some (.int .i64 (wrap64 (x6_1 + (wrap64 (Int.tmod (rd l0 x7_1) 3))))) := (blk_cell BK302.out 0).trans rfl
            have hcz47_1 : w46.cell? ⟨gb302, 1, none⟩ = some (.int .i64 (((Int.tdiv (rd l0 x7_1) 3) % 256) % 3)) := (blk_cell BK302.out 1).trans rfl
            have hcz47_2 : w46.cell? ⟨gb302, 2, none⟩ = some (.slice Ao44 t325.length co44) := (blk_cell BK302.out 2).trans rfl
            have hcz47_3 : w46.cell? ⟨gb302, 3, none⟩ = some (.int .i64 0) := (blk_cell BK302.out 3).trans rfl
            have hcz47_4 : w46.cell? ⟨gb302, 4, none⟩ = some (.int .i64 0) := (blk_cell BK302.out 4).trans rfl
            have hfz47_0 := blk_frozen BK302.out 0; have hfz47_1 := blk_frozen BK302.out 1; have hfz47_2 := blk_frozen BK302.out 2; have hfz47_3 := blk_frozen BK302.out 3; have hfz47_4 := blk_frozen BK302.out 4
            try go_wp2_with (first | ((with_reducible refine gate_dst (N := 85) rfl ?_); refine Kd.N_lit k30 _ 30 ?hg (N' := 85) ?hd (xs := ([(⟨wrap64 (x6_1 + (wrap64 (Int.tmod (rd l0 x7_1) 3))), ((Int.tdiv (rd l0 x7_1) 3) % 256) % 3, t325, 0, 0⟩ : S30)] : List (S30))) (inner := [.int .i64 (wrap64 (x6_1 + (wrap64 (Int.tmod (rd l0 x7_1) 3)))), .int .i64 (((Int.tdiv (rd l0 x7_1) 3) % 256) % 3), .slice Ao44 t325.length co44, .int .i64 0, .int .i64 0]) (ok := (fun k_ => (w.heap.size ≤ k_) ∧ some k_ ≠ (u5 : Value).ownBlock ∧ some k_ ≠ (.slice Ao41 y319.length co41 : Value).ownBlock ∧ some k_ ≠ (.slice Ao42 y322.length co42 : Value).ownBlock ∧ k_ ≠ gb302)) (okp := (fun k_ => (w.heap.size ≤ k_) ∧ some k_ ≠ (u5 : Value).ownBlock ∧ some k_ ≠ (.slice Ao41 y319.length co41 : Value).ownBlock ∧ some k_ ≠ (.slice Ao42 y322.length co42 : Value).ownBlock ∧ k_ ≠ gb302)) ?hr ?hp (fun _ hk => hk) ((show ∀ k_, w46.heap.size ≤ k_ → (fun k_ => (w.heap.size ≤ k_) ∧ some k_ ≠ (u5 : Value).ownBlock ∧ some k_ ≠ (.slice Ao41 y319.length co41 : Value).ownBlock ∧ some k_ ≠ (.slice Ao42 y322.length co42 : Value).ownBlock ∧ k_ ≠ gb302) k_ from fun k_ hk => ⟨(Nat.le_trans (below_size (by repeat (first | (with_reducible first | exact HB.out | apply below_alloc | apply pw_below_drewN | apply below_drew1 | refine below_set ?_ GE302.out) | exact HB.out))) hk), Kd.fresh' (Kd.N_lt (by (with_reducible repeat (first | apply Kd.N_alloc | apply Kd.N_drewN | apply Kd.N_drew)); exact HO_5.out)) k_ hk, Kd.fresh' (Kd.R_lt (by (with_reducible repeat (first | apply Kd.R_alloc | apply Kd.R_drewN | apply Kd.R_drew)); exact HO321.out)) k_ hk, Kd.fresh' (Kd.R_lt (by (with_reducible repeat (first | apply Kd.R_alloc | apply Kd.R_drewN | apply Kd.R_drew)); exact HO324.out)) k_ hk, Kd.freshB (g := gb302) (o := .cells #[.int .i64 (wrap64 (x6_1 + (wrap64 (Int.tmod (rd l0 x7_1) 3)))), .int .i64 (((Int.tdiv (rd l0 x7_1) 3) % 256) % 3), .slice Ao44 t325.length co44, .int .i64 0, .int .i64 0] 30 (0, 0)) (by (with_reducible repeat (first | refine blk_drewN ?_ _ | refine blk_drew ?_ | refine blk_alloc ?_ _)); exact BK302.out) k_ hk⟩) _ (Nat.le_refl _)) (Below.refl _ _) (Nat.le_refl _) (by simp) ?_; (case hd => rfl); (case hg => rfl); (case hr => first | (go_simp; done) | (go_simp; rfl)); (case hp => exact (Reps.c5 (show Kd.FK k30 _ _ (⟨wrap64 (x6_1 + (wrap64 (Int.tmod (rd l0 x7_1) 3))), ((Int.tdiv (rd l0 x7_1) 3) % 256) % 3, t325, 0, 0⟩ : S30) [.int .i64 (wrap64 (x6_1 + (wrap64 (Int.tmod (rd l0 x7_1) 3)))), .int .i64 (((Int.tdiv (rd l0 x7_1) 3) % 256) % 3), .slice Ao44 t325.length co44, .int .i64 0, .int .i64 0] from (k30_mkF _ _ (⟨wrap64 (x6_1 + (wrap64 (Int.tmod (rd l0 x7_1) 3))), ((Int.tdiv (rd l0 x7_1) 3) % 256) % 3, t325, 0, 0⟩ : S30) (Kd.R_reads' (Kd.R_mono (ok' := (fun k_ => (w.heap.size ≤ k_) ∧ some k_ ≠ (u5 : Value).ownBlock ∧ some k_ ≠ (.slice Ao41 y319.length co41 : Value).ownBlock ∧ some k_ ≠ (.slice Ao42 y322.length co42 : Value).ownBlock ∧ k_ ≠ gb302)) (Kd.R_types (Kd.R_apart' (HO327.out) (Kd.N_typed HO_5.out) (by decide)) BK302.out (by decide)) (fun k_ hk => ⟨hk.1.1.1, ⟨hk.1.2, ⟨hk.1.1.2.1, ⟨hk.1.1.2.2, hk.2⟩⟩⟩⟩))).2.1 (Kd.R_F (Kd.R_mono (ok' := (fun k_ => (w.heap.size ≤ k_) ∧ some k_ ≠ (u5 : Value).ownBlock ∧ some k_ ≠ (.slice Ao41 y319.length co41 : Value).ownBlock ∧ some k_ ≠ (.slice Ao42 y322.length co42 : Value).ownBlock ∧ k_ ≠ gb302)) (Kd.R_types (Kd.R_apart' (HO327.out) (Kd.N_typed HO_5.out) (by decide)) BK302.out (by decide)) (fun k_ hk => ⟨hk.1.1.1, ⟨hk.1.2, ⟨hk.1.1.2.1, ⟨hk.1.1.2.2, hk.2⟩⟩⟩⟩))))) (Reps.none _ _))); intro v329 w48 ho49 hb hg_ hnew_; clear hg_ hnew_; (first | rw [← Ny328.out] at ho49 | (simp only [Int.reduceToNat] at ho49; rw [← Ny328.out] at ho49)); have n0_ := Aside0.mk (Kd.N_elder' (by (with_reducible repeat (first | apply Kd.N_alloc | apply Kd.N_drewN | apply Kd.N_drew)); exact HO_5.out) (Kd.N_base ho49) hb); have n1_ := Aside0.mk (Kd.R_below (by (with_reducible repeat (first | apply Kd.R_alloc | apply Kd.R_drewN | apply Kd.R_drew)); exact HO321.out) hb); have n2_ := Aside0.mk (Kd.R_below (by (with_reducible repeat (first | apply Kd.R_alloc | apply Kd.R_drewN | apply Kd.R_drew)); exact HO324.out) hb); have n3_ := Aside0.mk (Kd.N_lower ho49 (below_size (by repeat (first | (with_reducible first | exact HB.out | apply below_alloc | apply pw_below_drewN | apply below_drew1 | refine below_set ?_ GE302.out) | exact HB.out)))); have n4_ := Aside0.mk (blk_below (g := gb302) (o := .cells #[.int .i64 (wrap64 (x6_1 + (wrap64 (Int.tmod (rd l0 x7_1) 3)))), .int .i64 (((Int.tdiv (rd l0 x7_1) 3) % 256) % 3), .slice Ao44 t325.length co44, .int .i64 0, .int .i64 0] 30 (0, 0)) (by (with_reducible repeat (first | refine blk_drewN ?_ _ | refine blk_drew ?_ | refine blk_alloc ?_ _)); exact BK302.out) hb); have n5_ := Aside0.mk (below_step (by repeat (first | (with_reducible first | exact HB.out | apply below_alloc | apply pw_below_drewN | apply below_drew1 | refine below_set ?_ GE302.out) | exact HB.out)) hb); clear HO_5; clear HO321; clear HO324; clear BK302; clear HB; clear HO327; have HO_5 := n0_; have HO321 := n1_; have HO324 := n2_; have HO330 := n3_; have BK302 := n4_; have HB := n5_; clear n0_ n1_ n2_ n3_ n4_ n5_; clear hb ho49; obtain ⟨Ao51, co51, eo51⟩ := Kd.N_slice HO330.out; subst eo51) | ((with_reducible refine gate_builtin (b := .append) (xs := #[.tmp 83, .tmp 85]) rfl ?_); at_builtin; refine Kd.N_append_rows k30 (w0 := w) w.heap.size rfl (.tmp 83) (.tmp 85) 25 30 (.agg #[(.int .i64 0), (.int .i64 0), (.slice none 0 0), (.int .i64 0), (.int .i64 0)]) 56 rfl Try.underlying25 info30 rfl (by decide) (by omega) u5 x5_1 y328 _ _ _ (fun k_ => (w.heap.size ≤ k_) ∧ some k_ ≠ (.slice Ao41 y319.length co41 : Value).ownBlock ∧ some k_ ≠ (.slice Ao42 y322.length co42 : Value).ownBlock ∧ k_ ≠ gb302) (fun k_ => ((fun k_ => (w.heap.size ≤ k_) ∧ some k_ ≠ (.slice Ao41 y319.length co41 : Value).ownBlock ∧ some k_ ≠ (.slice Ao42 y322.length co42 : Value).ownBlock ∧ k_ ≠ gb302)) k_ ∧ some k_ ≠ (u5 : Value).ownBlock) rfl rfl ?aO ?aR (fun _ hk => hk) ?aF ?aB ?aS ?aL ?_; (case aR => exact (by skip; exact Kd.N_F (Kd.N_mono (ok' := (fun k_ => ((fun k_ => (w.heap.size ≤ k_) ∧ some k_ ≠ (.slice Ao41 y319.length co41 : Value).ownBlock ∧ some k_ ≠ (.slice Ao42 y322.length co42 : Value).ownBlock ∧ k_ ≠ gb302)) k_ ∧ some k_ ≠ (u5 : Value).ownBlock)) (HO330.out) (fun k_ hk => ⟨⟨hk.1, ⟨hk.2.2.1, ⟨hk.2.2.2.1, hk.2.2.2.2⟩⟩⟩, hk.2.1⟩)))); (case aB => exact (by repeat (first | (with_reducible first | exact HB.out | apply below_alloc | apply pw_below_drewN | apply below_drew1 | refine below_set ?_ GE302.out) | exact HB.out))); (case aF => exact (fun k_ hk => ⟨(Nat.le_trans (below_size (by repeat (first | (with_reducible first | exact HB.out | apply below_alloc | apply pw_below_drewN | apply below_drew1 | refine below_set ?_ GE302.out) | exact HB.out))) hk), Kd.fresh' (Kd.R_lt (by (with_reducible repeat (first | apply Kd.R_alloc | apply Kd.R_drewN | apply Kd.R_drew)); exact HO321.out)) k_ hk, Kd.fresh' (Kd.R_lt (by (with_reducible repeat (first | apply Kd.R_alloc | apply Kd.R_drewN | apply Kd.R_drew)); exact HO324.out)) k_ hk, Kd.freshB (g := gb302) (o := .cells #[.int .i64 (wrap64 (x6_1 + (wrap64 (Int.tmod (rd l0 x7_1) 3)))), .int .i64 (((Int.tdiv (rd l0 x7_1) 3) % 256) % 3), .slice Ao44 t325.length co44, .int .i64 0, .int .i64 0] 30 (0, 0)) (by (with_reducible repeat (first | refine blk_drewN ?_ _ | refine blk_drew ?_ | refine blk_alloc ?_ _)); exact BK302.out) k_ hk⟩)); (case aO => exact (by (with_reducible repeat (first | apply Kd.N_alloc | apply Kd.N_drewN | apply Kd.N_drew)); exact Kd.N_mono HO_5.out (fun _ hk => ⟨hk.1.1, ⟨hk.1.2.1, ⟨hk.1.2.2.1, hk.1.2.2.2.2⟩⟩⟩))); (case aS => exact (below_size (by repeat (first | (with_reducible first | exact HB.out | apply below_alloc | apply pw_below_drewN | apply below_drew1 | refine below_set ?_ GE302.out) | exact HB.out)))); (case aL => have := LMc30.out; omega); intro v332 w50 ho hb hg hat; rw [← Ny331.out] at ho; have n0_ := Aside0.mk (blk_grown (g := gb302) (o := .cells #[.int .i64 (wrap64 (x6_1 + (wrap64 (Int.tmod (rd l0 x7_1) 3)))), .int .i64 (((Int.tdiv (rd l0 x7_1) 3) % 256) % 3), .slice Ao44 t325.length co44, .int .i64 0, .int .i64 0] 30 (0, 0)) (by (with_reducible repeat (first | refine blk_drewN ?_ _ | refine blk_drew ?_ | refine blk_alloc ?_ _)); exact BK302.out) hg (Kd.N_away HO_5.out (fun _ hk => hk.1.2.2.2.2))); have n1_ := Aside0.mk (Kd.R_over' (by (with_reducible repeat (first | apply Kd.R_alloc | apply Kd.R_drewN | apply Kd.R_drew)); exact HO321.out) (Kd.N_typed (by (with_reducible repeat (first | apply Kd.N_alloc | apply Kd.N_drewN | apply Kd.N_drew)); exact HO_5.out)) (by decide) hg); have n2_ := Aside0.mk (Kd.R_over' (by (with_reducible repeat (first | apply Kd.R_alloc | apply Kd.R_drewN | apply Kd.R_drew)); exact HO324.out) (Kd.N_typed (by (with_reducible repeat (first | apply Kd.N_alloc | apply Kd.N_drewN | apply Kd.N_drew)); exact HO_5.out)) (by decide) hg); have n3_ := Aside0.mk (Kd.N_afterv (ok := (fun k_ => (w.heap.size ≤ k_) ∧ some k_ ≠ (.slice Ao41 y319.length co41 : Value).ownBlock ∧ some k_ ≠ (.slice Ao42 y322.length co42 : Value).ownBlock ∧ k_ ≠ gb302)) (by (with_reducible repeat (first | apply Kd.N_alloc | apply Kd.N_drewN | apply Kd.N_drew)); exact Kd.N_mono HO330.out (fun _ hk => ⟨⟨hk.1, ⟨hk.2.2.1, ⟨hk.2.2.2.1, hk.2.2.2.2⟩⟩⟩, hk.2.1⟩)) hg hat); have n4_ := Aside0.mk (hb); have n5_ := Aside0.mk (ho); clear BK302; clear HO321; clear HO324; clear HO330; clear HB; clear HO_5; have BK302 := n0_; have HO321 := n1_; have HO324 := n2_; have HO330 := n3_; have HB := n4_; have HO333 := n5_; clear n0_ n1_ n2_ n3_ n4_ n5_; clear ho hb hg hat))
            go_roundg k1
            case measure => have := HK1.out; omega
            case rel => exact ⟨(y331), (wrap64 (x6_1 + (wrap64 (Int.tmod (rd l0 x7_1) 3)))), (wrap64 (x7_1 + 1)), (by first | rfl | (simp; done) | (simp [*]; done)), (by first | rfl | (simp; done) | (simp [*]; done)), H', ⟨by have := HK1.out; omega⟩, ⟨by (with_reducible repeat (first | apply Kd.N_alloc | apply Kd.N_drewN | apply Kd.N_drew)); exact Kd.N_mono HO333.out (fun _ hk => hk.1)⟩, ⟨by repeat (first | (with_reducible first | exact HB.out | apply below_alloc | apply pw_below_drewN | apply below_drew1 | refine below_set ?_ GE302.out) | exact HB.out)⟩⟩
           ·rw [if_neg c30] at H
            exact absurd H (by simp)
          ·rw [if_neg c28] at H
           exact absurd H (by simp)
         ·rw [if_neg c27] at H
          exact absurd H (by simp)
        ·rw [if_neg c26] at H
         exact absurd H (by simp)
       ·rw [if_neg c25] at H
        exact absurd H (by simp)
      ·rw [if_neg c23] at H
       have c23b0 : ((((Int.tdiv (rd l0 x7_1) 3) % 256) % 3) == 1) = false := beq_eq_false_iff_ne.mpr c23
       have c23b1 : ((((Int.tdiv (rd l0 x7_1) 3) % 256) % 3) != 1) = true := bne_iff_ne.mpr c23
       obtain ⟨y336, hy336⟩ : ∃ y_ : List (S30), y_ = (([(⟨wrap64 (x6_1 + (wrap64 (Int.tmod (rd l0 x7_1) 3))), ((Int.tdiv (rd l0 x7_1) 3) % 256) % 3, ([] : List Int), (((Int.tdiv (rd l0 x7_1) 9) % 256) % 6) + 1, (((Int.tdiv (rd l0 x7_1) 5) % 256) % 9) + 1⟩ : S30)] : List (S30))) := ⟨_, rfl⟩
       replace H : (if x5_1.length + y336.length < 2513169434916 then (repriseseat_Events.l0 k1 l0 l1 (x5_1 ++ y336) (wrap64 (x6_1 + (wrap64 (Int.tmod (rd l0 x7_1) 3)))) (wrap64 (x7_1 + 1))) else (none)) = some r := by first | (rw [hy336]; with_reducible exact H) | (have H2_ := (Option.bind_some _ _).symm.trans H; rw [hy336]; with_reducible exact H2_) | (have H2_ := (Option.bind_some _ _).symm.trans H; with_reducible exact H2_) | with_reducible exact H | (rw [hy336]; exact H) | exact H
       have Ny336 := Aside0.mk hy336; clear hy336; by_cases c52 : x5_1.length + y336.length < 2513169434916
       ·rw [if_pos c52] at H
        have LMc52 := Aside0.mk c52; clear c52; obtain ⟨y339, hy339⟩ : ∃ y_ : List (S30), y_ = (x5_1 ++ y336) := ⟨_, rfl⟩
        replace H : (repriseseat_Events.l0 k1 l0 l1 y339 (wrap64 (x6_1 + (wrap64 (Int.tmod (rd l0 x7_1) 3)))) (wrap64 (x7_1 + 1))) = some r := by first | (rw [hy339]; with_reducible exact H) | (have H2_ := (Option.bind_some _ _).symm.trans H; rw [hy339]; with_reducible exact H2_) | (have H2_ := (Option.bind_some _ _).symm.trans H; with_reducible exact H2_) | with_reducible exact H | (rw [hy339]; exact H) | exact H
        have Ny339 := Aside0.mk hy339; clear hy339; have H' := Aside0.mk H; clear H; have p300 : 0 ≤ (x7_1 : Int) := of_decide_eq_true (by first | (with_reducible assumption) | assumption)
        have q300 : x7_1 < (l0.length : Int) := of_decide_eq_true (by first | (with_reducible assumption) | assumption)
        obtain ⟨ad300, e300, hx300_0⟩ := Kd.at_int HR0.out x7_1 p300 q300; cases e300; replace hx300_0 := (HB.out.cell (World.block_lt_of_cell? w _ hx300_0)).trans hx300_0
        replace p300 := eq_true p300; replace q300 := eq_true q300; have p301 : 0 ≤ (x7_1 : Int) := of_decide_eq_true (by first | (with_reducible assumption) | assumption)
        have q301 : x7_1 < (l0.length : Int) := of_decide_eq_true (by first | (with_reducible assumption) | assumption)
        obtain ⟨ad301, e301, hx301_0⟩ := Kd.at_int HR0.out x7_1 p301 q301; obtain rfl : ad300 = ad301 := (by injection e301)
        replace hx301_0 := (HB.out.cell (World.block_lt_of_cell? w _ hx301_0)).trans hx301_0
        replace p301 := eq_true p301; replace q301 := eq_true q301
        try go_wp2_with (first | ((with_reducible refine gate_dst (N := 8) rfl ?_); refine box_event ?hg (N := 8) ?hd (cs := #[.int .i64 0, .int .i64 0, .slice none 0 0, .int .i64 0, .int .i64 0]) (t := 30) ?hr ?_; (case hd => rfl); (case hg => rfl); (case hr => first | (go_simp; done) | (go_simp; rfl)); intro gb302 hg w53 hbox hb; have n0_ := Aside0.mk (Kd.N_below (Kd.N_elderB (by (with_reducible repeat (first | apply Kd.N_alloc | apply Kd.N_drewN | apply Kd.N_drew)); exact HO_5.out) gb302 (Nat.le_of_eq hg.symm)) hb); have n1_ := Aside0.mk (below_step (by repeat (first | (with_reducible first | exact HB.out | apply below_alloc | apply pw_below_drewN | apply below_drew1) | exact HB.out)) hb); have n2_ := Aside0.mk (hbox); have n3_ := Aside0.mk ((by rw [hg]; exact (below_size (by repeat (first | (with_reducible first | exact HB.out | apply below_alloc | apply pw_below_drewN | apply below_drew1) | exact HB.out))) : w.heap.size ≤ gb302)); have n4_ := Aside0.mk ((by rw [hg]; exact (below_size (by repeat (first | (with_reducible first | exact HB.out | apply below_alloc | apply pw_below_drewN | apply below_drew1) | exact HB.out))) : w.heap.size ≤ gb302)); clear HO_5; clear HB; have HO_5 := n0_; have HB := n1_; have BK302 := n2_; have GW302 := n3_; have GE302 := n4_; clear n0_ n1_ n2_ n3_ n4_; clear hb hbox hg; have hcz54_0 : w53.cell? ⟨gb302, 0, none⟩ = some (.int .i64 0) := (blk_cell BK302.out 0).trans rfl; have hcz54_1 : w53.cell? ⟨gb302, 1, none⟩ = some (.int .i64 0) := (blk_cell BK302.out 1).trans rfl; have hcz54_2 : w53.cell? ⟨gb302, 2, none⟩ = some (.slice none 0 0) := (blk_cell BK302.out 2).trans rfl; have hcz54_3 : w53.cell? ⟨gb302, 3, none⟩ = some (.int .i64 0) := (blk_cell BK302.out 3).trans rfl; have hcz54_4 : w53.cell? ⟨gb302, 4, none⟩ = some (.int .i64 0) := (blk_cell BK302.out 4).trans rfl; have hfz54_0 := blk_frozen BK302.out 0; have hfz54_1 := blk_frozen BK302.out 1; have hfz54_2 := blk_frozen BK302.out 2; have hfz54_3 := blk_frozen BK302.out 3; have hfz54_4 := blk_frozen BK302.out 4))
        have n0_ : Aside0 (Kd.N k30 30 (((((w53.setCell ⟨gb302, 0, none⟩ (.int .i64 (wrap64 (x6_1 + (wrap64 (Int.tmod (rd l0 x7_1) 3)))))).setCell ⟨gb302, 1, none⟩ (.int .i64 (((Int.tdiv (rd l0 x7_1) 3) % 256) % 3))).setCell ⟨gb302, 2, none⟩ (.slice none 0 0)).setCell ⟨gb302, 3, none⟩ (.int .i64 0)).setCell ⟨gb302, 4, none⟩ (.int .i64 0)) w.heap.size (fun k_ => (w.heap.size ≤ k_) ∧ k_ ≠ gb302) u5 x5_1) := ⟨by (with_reducible repeat (first | apply Kd.N_alloc | apply Kd.N_drewN | apply Kd.N_drew)); exact Kd.N_mono (Kd.N_far (p := ⟨gb302, 4, none⟩) (Kd.N_far (p := ⟨gb302, 3, none⟩) (Kd.N_far (p := ⟨gb302, 2, none⟩) (Kd.N_far (p := ⟨gb302, 1, none⟩) (Kd.N_far (p := ⟨gb302, 0, none⟩) (Kd.N_mono HO_5.out (fun k_ hk => (⟨hk, hk.2⟩ : _ ∧ k_ ≠ gb302))) (fun _ hk => hk.2) (.int .i64 (wrap64 (x6_1 + (wrap64 (Int.tmod (rd l0 x7_1) 3)))))) (fun _ hk => hk.2) (.int .i64 (((Int.tdiv (rd l0 x7_1) 3) % 256) % 3))) (fun _ hk => hk.2) (.slice none 0 0)) (fun _ hk => hk.2) (.int .i64 0)) (fun _ hk => hk.2) (.int .i64 0)) (fun _ hk => ⟨hk.1.1, hk.1.2⟩)⟩
        have n1_ : Aside0 ((((((w53.setCell ⟨gb302, 0, none⟩ (.int .i64 (wrap64 (x6_1 + (wrap64 (Int.tmod (rd l0 x7_1) 3)))))).setCell ⟨gb302, 1, none⟩ (.int .i64 (((Int.tdiv (rd l0 x7_1) 3) % 256) % 3))).setCell ⟨gb302, 2, none⟩ (.slice none 0 0)).setCell ⟨gb302, 3, none⟩ (.int .i64 0)).setCell ⟨gb302, 4, none⟩ (.int .i64 0)).heap[gb302]? = some (.cells #[.int .i64 (wrap64 (x6_1 + (wrap64 (Int.tmod (rd l0 x7_1) 3)))), .int .i64 (((Int.tdiv (rd l0 x7_1) 3) % 256) % 3), .slice none 0 0, .int .i64 0, .int .i64 0] 30 (0, 0))) := ⟨by (with_reducible repeat (first | refine blk_drewN ?_ _ | refine blk_drew ?_ | refine blk_alloc ?_ _)); refine blk_put (cs := #[.int .i64 (wrap64 (x6_1 + (wrap64 (Int.tmod (rd l0 x7_1) 3)))), .int .i64 (((Int.tdiv (rd l0 x7_1) 3) % 256) % 3), .slice none 0 0, .int .i64 0, .int .i64 0]) ?_ 4 _ rfl; (with_reducible repeat (first | refine blk_drewN ?_ _ | refine blk_drew ?_ | refine blk_alloc ?_ _)); refine blk_put (cs := #[.int .i64 (wrap64 (x6_1 + (wrap64 (Int.tmod (rd l0 x7_1) 3)))), .int .i64 (((Int.tdiv (rd l0 x7_1) 3) % 256) % 3), .slice none 0 0, .int .i64 0, .int .i64 0]) ?_ 3 _ rfl; (with_reducible repeat (first | refine blk_drewN ?_ _ | refine blk_drew ?_ | refine blk_alloc ?_ _)); refine blk_put (cs := #[.int .i64 (wrap64 (x6_1 + (wrap64 (Int.tmod (rd l0 x7_1) 3)))), .int .i64 (((Int.tdiv (rd l0 x7_1) 3) % 256) % 3), .slice none 0 0, .int .i64 0, .int .i64 0]) ?_ 2 _ rfl; (with_reducible repeat (first | refine blk_drewN ?_ _ | refine blk_drew ?_ | refine blk_alloc ?_ _)); refine blk_put (cs := #[.int .i64 (wrap64 (x6_1 + (wrap64 (Int.tmod (rd l0 x7_1) 3)))), .int .i64 0, .slice none 0 0, .int .i64 0, .int .i64 0]) ?_ 1 _ rfl; (with_reducible repeat (first | refine blk_drewN ?_ _ | refine blk_drew ?_ | refine blk_alloc ?_ _)); refine blk_put (cs := #[.int .i64 0, .int .i64 0, .slice none 0 0, .int .i64 0, .int .i64 0]) ?_ 0 _ rfl; (with_reducible repeat (first | refine blk_drewN ?_ _ | refine blk_drew ?_ | refine blk_alloc ?_ _)); exact BK302.out⟩
        have n2_ : Aside0 (Below w.heap.size w (((((w53.setCell ⟨gb302, 0, none⟩ (.int .i64 (wrap64 (x6_1 + (wrap64 (Int.tmod (rd l0 x7_1) 3)))))).setCell ⟨gb302, 1, none⟩ (.int .i64 (((Int.tdiv (rd l0 x7_1) 3) % 256) % 3))).setCell ⟨gb302, 2, none⟩ (.slice none 0 0)).setCell ⟨gb302, 3, none⟩ (.int .i64 0)).setCell ⟨gb302, 4, none⟩ (.int .i64 0))) := ⟨by repeat (first | (with_reducible first | exact HB.out | apply below_alloc | apply pw_below_drewN | apply below_drew1 | refine below_set ?_ GE302.out) | exact HB.out)⟩
        (try clear HO_5)
        (try clear BK302)
        (try clear HB)
        generalize (((((w53.setCell ⟨gb302, 0, none⟩ (.int .i64 (wrap64 (x6_1 + (wrap64 (Int.tmod (rd l0 x7_1) 3)))))).setCell ⟨gb302, 1, none⟩ (.int .i64 (((Int.tdiv (rd l0 x7_1) 3) % 256) % 3))).setCell ⟨gb302, 2, none⟩ (.slice none 0 0)).setCell ⟨gb302, 3, none⟩ (.int .i64 0)).setCell ⟨gb302, 4, none⟩ (.int .i64 0)) = w55 at n0_ n1_ n2_ ⊢
        have HO_5 := n0_; have BK302 := n1_; have HB := n2_; clear n0_ n1_ n2_; have n0_ := Aside0.mk (Kd.N_drew HO_5.out)
        have n1_ := Aside0.mk (blk_drew BK302.out)
        have n2_ := Aside0.mk (below_drew1 HB.out)
        clear HO_5 BK302 HB; have HO_5 := n0_; have BK302 := n1_; have HB := n2_; clear n0_ n1_ n2_; have p334 : 0 ≤ (x7_1 : Int) := of_decide_eq_true (by first | (with_reducible assumption) | assumption)
        have q334 : x7_1 < (l0.length : Int) := of_decide_eq_true (by first | (with_reducible assumption) | assumption)
        obtain ⟨ad334, e334, hx334_0⟩ := Kd.at_int HR0.out x7_1 p334 q334; have hw334_0 := hx334_0; obtain rfl : ad300 = ad334 := (by injection e334)
        replace hx334_0 := (HB.out.cell (World.block_lt_of_cell? w _ hx334_0)).trans hx334_0
        replace p334 := eq_true p334; replace q334 := eq_true q334; have p335 : 0 ≤ (x7_1 : Int) := of_decide_eq_true (by first | (with_reducible assumption) | assumption)
        have q335 : x7_1 < (l0.length : Int) := of_decide_eq_true (by first | (with_reducible assumption) | assumption)
        obtain ⟨ad335, e335, hx335_0⟩ := Kd.at_int HR0.out x7_1 p335 q335; have hw335_0 := hx335_0; obtain rfl : ad300 = ad335 := (by injection e335)
        replace hx335_0 := (HB.out.cell (World.block_lt_of_cell? w _ hx335_0)).trans hx335_0
        replace p335 := eq_true p335; replace q335 := eq_true q335; refine start_ (n := 20) (S := fun w' => w'.cell? (ad300.add (x7_1).toNat) = some (.int .u8 (rd l0 x7_1)) ∧ w'.cell? (ad300.add (x7_1).toNat) = some (.int .u8 (rd l0 x7_1))) (ds := []) #[false, false, false, false, false, false, false, false, false, false, false, false, false, false, false, false, false, false, false, false] (by kernel_rfl) rfl rfl ⟨((HB.out.cell (World.block_lt_of_cell? w _ hw334_0)).trans hw334_0), ((HB.out.cell (World.block_lt_of_cell? w _ hw335_0)).trans hw335_0)⟩ (fun hHeld => ?_); refine with_tabW repriseseat_Events.tab9 repriseseat_Events.bits9 (fun HT_ HW_ => ?_)
        generalize w55.drew = w56 at HO_5 BK302 HB hx334_0 hx335_0 hHeld ⊢
        refine pure_ (i := 0) (N := some 34) (v := ?_) (a' := ?_) #[true, false, false, false, false, false, false, false, false, false, false, false, false, false, false, false, false, false, false, false] rfl rfl (any_of HT_.out (by kernel_rfl)) (fun _ _ _ h => h) (Or.inl ⟨by rfl, ?_⟩) ?_ ?_
        rotate_left
        ·intro w'
         go_simp
         with_reducible rfl
        rotate_left
        ·simp only [Act.put, List.setIfInBounds_toArray, List.set_cons_zero, List.set_cons_succ, i64_w, i32_w]
         rfl
        refine pure_ (i := 1) (N := some 35) (v := ?_) (a' := ?_) #[true, true, false, false, false, false, false, false, false, false, false, false, false, false, false, false, false, false, false, false] rfl rfl (any_of HT_.out (by kernel_rfl)) (fun _ _ _ h => h) (Or.inl ⟨by rfl, ?_⟩) ?_ ?_
        rotate_left
        ·intro w'
         go_simp
         with_reducible rfl
        rotate_left
        ·simp only [Act.put, List.setIfInBounds_toArray, List.set_cons_zero, List.set_cons_succ, i64_w, i32_w]
         rfl
        refine pure_ (i := 2) (N := some 36) (v := ?_) (a' := ?_) #[true, true, true, false, false, false, false, false, false, false, false, false, false, false, false, false, false, false, false, false] rfl rfl (any_of HT_.out (by kernel_rfl)) (fun _ _ _ h => h) (Or.inl ⟨by rfl, ?_⟩) ?_ ?_
        rotate_left
        ·intro w'
         go_simp
         with_reducible rfl
        rotate_left
        ·simp only [Act.put, List.setIfInBounds_toArray, List.set_cons_zero, List.set_cons_succ, i64_w, i32_w]
         rfl
        refine pure_ (i := 8) (N := some 42) (v := ?_) (a' := ?_) #[true, true, true, false, false, false, false, false, true, false, false, false, false, false, false, false, false, false, false, false] rfl rfl (any_of HT_.out (by kernel_rfl)) (fun _ _ _ h => h) (Or.inl ⟨by rfl, ?_⟩) ?_ ?_
        rotate_left
        ·intro w'
         go_simp
         with_reducible rfl
        rotate_left
        ·simp only [Act.put, List.setIfInBounds_toArray, List.set_cons_zero, List.set_cons_succ, i64_w, i32_w]
         rfl
        refine pure_ (i := 9) (N := some 43) (v := ?_) (a' := ?_) #[true, true, true, false, false, false, false, false, true, true, false, false, false, false, false, false, false, false, false, false] rfl rfl (any_of HT_.out (by kernel_rfl)) (fun _ _ _ h => h) (Or.inl ⟨by rfl, ?_⟩) ?_ ?_
        rotate_left
        ·intro w'
         go_simp
         with_reducible rfl
        rotate_left
        ·simp only [Act.put, List.setIfInBounds_toArray, List.set_cons_zero, List.set_cons_succ, i64_w, i32_w]
         rfl
        refine pure_ (i := 10) (N := some 44) (v := ?_) (a' := ?_) #[true, true, true, false, false, false, false, false, true, true, true, false, false, false, false, false, false, false, false, false] rfl rfl (any_of HT_.out (by kernel_rfl)) (fun _ _ _ h => h) (Or.inl ⟨by rfl, ?_⟩) ?_ ?_
        rotate_left
        ·intro w'
         go_simp
         with_reducible rfl
        rotate_left
        ·simp only [Act.put, List.setIfInBounds_toArray, List.set_cons_zero, List.set_cons_succ, i64_w, i32_w]
         rfl
        refine take_ (i := 3) (N := some 37) (v := ?_) (a' := ?_) #[true, true, true, true, false, false, false, false, true, true, true, false, false, false, false, false, false, false, false, false] rfl rfl (take_ofW HT_.out HW_.out (by kernel_rfl)) (fun _ _ _ h => h) (Or.inl ⟨by rfl, ?_⟩) hHeld ?_ ?_
        rotate_left
        ·rintro w' ⟨s0, s1⟩
         go_simp
         with_reducible rfl
        rotate_left
        ·simp only [Act.put, List.setIfInBounds_toArray, List.set_cons_zero, List.set_cons_succ, i64_w, i32_w]
         rfl
        refine pure_ (i := 4) (N := some 38) (v := ?_) (a' := ?_) #[true, true, true, true, true, false, false, false, true, true, true, false, false, false, false, false, false, false, false, false] rfl rfl (any_of HT_.out (by kernel_rfl)) (fun _ _ _ h => h) (Or.inl ⟨by rfl, ?_⟩) ?_ ?_
        rotate_left
        ·intro w'
         go_simp
         with_reducible rfl
        rotate_left
        ·simp only [Act.put, List.setIfInBounds_toArray, List.set_cons_zero, List.set_cons_succ, i64_w, i32_w]
         rfl
        refine pure_ (i := 5) (N := some 39) (v := ?_) (a' := ?_) #[true, true, true, true, true, true, false, false, true, true, true, false, false, false, false, false, false, false, false, false] rfl rfl (any_of HT_.out (by kernel_rfl)) (fun _ _ _ h => h) (Or.inl ⟨by rfl, ?_⟩) ?_ ?_
        rotate_left
        ·intro w'
         go_simp
         with_reducible rfl
        rotate_left
        ·simp only [Act.put, List.setIfInBounds_toArray, List.set_cons_zero, List.set_cons_succ, i64_w, i32_w]
         rfl
        refine pure_ (i := 6) (N := some 40) (v := ?_) (a' := ?_) #[true, true, true, true, true, true, true, false, true, true, true, false, false, false, false, false, false, false, false, false] rfl rfl (any_of HT_.out (by kernel_rfl)) (fun _ _ _ h => h) (Or.inl ⟨by rfl, ?_⟩) ?_ ?_
        rotate_left
        ·intro w'
         go_simp
         with_reducible rfl
        rotate_left
        ·simp only [Act.put, List.setIfInBounds_toArray, List.set_cons_zero, List.set_cons_succ, i64_w, i32_w]
         rfl
        refine pure_ (i := 7) (N := some 41) (v := ?_) (a' := ?_) #[true, true, true, true, true, true, true, true, true, true, true, false, false, false, false, false, false, false, false, false] rfl rfl (any_of HT_.out (by kernel_rfl)) (fun _ _ _ h => h) (Or.inl ⟨by rfl, ?_⟩) ?_ ?_
        rotate_left
        ·intro w'
         go_simp
         with_reducible rfl
        rotate_left
        ·simp only [Act.put, List.setIfInBounds_toArray, List.set_cons_zero, List.set_cons_succ, i64_w, i32_w]
         rfl
        refine pure_ (i := 16) (N := some 50) (v := ?_) (a' := ?_) #[true, true, true, true, true, true, true, true, true, true, true, false, false, false, false, false, true, false, false, false] rfl rfl (any_of HT_.out (by kernel_rfl)) (fun _ _ _ h => h) (Or.inl ⟨by rfl, ?_⟩) ?_ ?_
        rotate_left
        ·intro w'
         go_simp
         with_reducible rfl
        rotate_left
        ·simp only [Act.put, List.setIfInBounds_toArray, List.set_cons_zero, List.set_cons_succ, i64_w, i32_w]
         rfl
        refine take_ (i := 11) (N := some 45) (v := ?_) (a' := ?_) #[true, true, true, true, true, true, true, true, true, true, true, true, false, false, false, false, true, false, false, false] rfl rfl (take_ofW HT_.out HW_.out (by kernel_rfl)) (fun _ _ _ h => h) (Or.inl ⟨by rfl, ?_⟩) hHeld ?_ ?_
        rotate_left
        ·rintro w' ⟨s0, s1⟩
         go_simp
         with_reducible rfl
        rotate_left
        ·simp only [Act.put, List.setIfInBounds_toArray, List.set_cons_zero, List.set_cons_succ, i64_w, i32_w]
         rfl
        refine pure_ (i := 12) (N := some 46) (v := ?_) (a' := ?_) #[true, true, true, true, true, true, true, true, true, true, true, true, true, false, false, false, true, false, false, false] rfl rfl (any_of HT_.out (by kernel_rfl)) (fun _ _ _ h => h) (Or.inl ⟨by rfl, ?_⟩) ?_ ?_
        rotate_left
        ·intro w'
         go_simp
         with_reducible rfl
        rotate_left
        ·simp only [Act.put, List.setIfInBounds_toArray, List.set_cons_zero, List.set_cons_succ, i64_w, i32_w]
         rfl
        refine pure_ (i := 13) (N := some 47) (v := ?_) (a' := ?_) #[true, true, true, true, true, true, true, true, true, true, true, true, true, true, false, false, true, false, false, false] rfl rfl (any_of HT_.out (by kernel_rfl)) (fun _ _ _ h => h) (Or.inl ⟨by rfl, ?_⟩) ?_ ?_
        rotate_left
        ·intro w'
         go_simp
         with_reducible rfl
        rotate_left
        ·simp only [Act.put, List.setIfInBounds_toArray, List.set_cons_zero, List.set_cons_succ, i64_w, i32_w]
         rfl
        refine pure_ (i := 14) (N := some 48) (v := ?_) (a' := ?_) #[true, true, true, true, true, true, true, true, true, true, true, true, true, true, true, false, true, false, false, false] rfl rfl (any_of HT_.out (by kernel_rfl)) (fun _ _ _ h => h) (Or.inl ⟨by rfl, ?_⟩) ?_ ?_
        rotate_left
        ·intro w'
         go_simp
         with_reducible rfl
        rotate_left
        ·simp only [Act.put, List.setIfInBounds_toArray, List.set_cons_zero, List.set_cons_succ, i64_w, i32_w]
         rfl
        refine pure_ (i := 15) (N := some 49) (v := ?_) (a' := ?_) #[true, true, true, true, true, true, true, true, true, true, true, true, true, true, true, true, true, false, false, false] rfl rfl (any_of HT_.out (by kernel_rfl)) (fun _ _ _ h => h) (Or.inl ⟨by rfl, ?_⟩) ?_ ?_
        rotate_left
        ·intro w'
         go_simp
         with_reducible rfl
        rotate_left
        ·simp only [Act.put, List.setIfInBounds_toArray, List.set_cons_zero, List.set_cons_succ, i64_w, i32_w]
         rfl
        refine one_ (i := 17) (N := none) #[true, true, true, true, true, true, true, true, true, true, true, true, true, true, true, true, true, true, false, false] rfl rfl (one_of HT_.out (by kernel_rfl)) (by decide) (fun K hK => ?_)
        have hs57 : w56.cell? ⟨gb302, 3, none⟩ = some (.int .i64 0) := (blk_cell BK302.out 3).trans rfl
        have hfs57 := blk_frozen BK302.out 3; refine skip_ (w1 := ?_) (by rfl) rfl ?_ ?_
        rotate_left
        ·go_simp
         rfl
        refine hK.out _ _ ⟨((cell_far (p := ⟨gb302, _, none⟩) (by first | exact Nat.ne_of_lt (Nat.lt_of_lt_of_le (by have := World.block_lt_of_cell? _ _ hw334_0; first | rwa [add_block] at this | exact this) GW302.out) | (rw [add_block]; exact Nat.ne_of_lt (Nat.lt_of_lt_of_le (by have := World.block_lt_of_cell? _ _ hw334_0; first | rwa [add_block] at this | exact this) GW302.out)) | (show (Addr.add _ _).block ≠ _; rw [add_block]; exact Nat.ne_of_lt (Nat.lt_of_lt_of_le (by have := World.block_lt_of_cell? _ _ hw334_0; first | rwa [add_block] at this | exact this) GW302.out)) | (dsimp only; exact Nat.ne_of_lt (Nat.lt_of_lt_of_le (by have := World.block_lt_of_cell? _ _ hw334_0; first | rwa [add_block] at this | exact this) GW302.out))) _).trans (hHeld.1)), ((cell_far (p := ⟨gb302, _, none⟩) (by first | exact Nat.ne_of_lt (Nat.lt_of_lt_of_le (by have := World.block_lt_of_cell? _ _ hw335_0; first | rwa [add_block] at this | exact this) GW302.out) | (rw [add_block]; exact Nat.ne_of_lt (Nat.lt_of_lt_of_le (by have := World.block_lt_of_cell? _ _ hw335_0; first | rwa [add_block] at this | exact this) GW302.out)) | (show (Addr.add _ _).block ≠ _; rw [add_block]; exact Nat.ne_of_lt (Nat.lt_of_lt_of_le (by have := World.block_lt_of_cell? _ _ hw335_0; first | rwa [add_block] at this | exact this) GW302.out)) | (dsimp only; exact Nat.ne_of_lt (Nat.lt_of_lt_of_le (by have := World.block_lt_of_cell? _ _ hw335_0; first | rwa [add_block] at this | exact this) GW302.out))) _).trans (hHeld.2))⟩ (fun hHeld => ?_)
        clear hK K; refine pure_ (i := 18) (N := some 51) (v := ?_) (a' := ?_) #[true, true, true, true, true, true, true, true, true, true, true, true, true, true, true, true, true, true, true, false] rfl rfl (any_of HT_.out (by kernel_rfl)) (fun _ _ _ h => h) (Or.inl ⟨by rfl, ?_⟩) ?_ ?_
        rotate_left
        ·intro w'
         go_simp
         with_reducible rfl
        rotate_left
        ·simp only [Act.put, List.setIfInBounds_toArray, List.set_cons_zero, List.set_cons_succ, i64_w, i32_w]
         rfl
        refine one_ (i := 19) (N := none) #[true, true, true, true, true, true, true, true, true, true, true, true, true, true, true, true, true, true, true, true] rfl rfl (one_of HT_.out (by kernel_rfl)) (by decide) (fun K hK => ?_)
        have hs58 : w56.cell? ⟨gb302, 4, none⟩ = some (.int .i64 0) := (blk_cell BK302.out 4).trans rfl
        have hfs58 := blk_frozen BK302.out 4; refine skip_ (w1 := ?_) (by rfl) rfl ?_ ?_
        rotate_left
        ·go_simp
         rfl
        refine hK.out _ _ ⟨((cell_far (p := ⟨gb302, _, none⟩) (by first | exact Nat.ne_of_lt (Nat.lt_of_lt_of_le (by have := World.block_lt_of_cell? _ _ hw334_0; first | rwa [add_block] at this | exact this) GW302.out) | (rw [add_block]; exact Nat.ne_of_lt (Nat.lt_of_lt_of_le (by have := World.block_lt_of_cell? _ _ hw334_0; first | rwa [add_block] at this | exact this) GW302.out)) | (show (Addr.add _ _).block ≠ _; rw [add_block]; exact Nat.ne_of_lt (Nat.lt_of_lt_of_le (by have := World.block_lt_of_cell? _ _ hw334_0; first | rwa [add_block] at this | exact this) GW302.out)) | (dsimp only; exact Nat.ne_of_lt (Nat.lt_of_lt_of_le (by have := World.block_lt_of_cell? _ _ hw334_0; first | rwa [add_block] at this | exact this) GW302.out))) _).trans (hHeld.1)), ((cell_far (p := ⟨gb302, _, none⟩) (by first | exact Nat.ne_of_lt (Nat.lt_of_lt_of_le (by have := World.block_lt_of_cell? _ _ hw335_0; first | rwa [add_block] at this | exact this) GW302.out) | (rw [add_block]; exact Nat.ne_of_lt (Nat.lt_of_lt_of_le (by have := World.block_lt_of_cell? _ _ hw335_0; first | rwa [add_block] at this | exact this) GW302.out)) | (show (Addr.add _ _).block ≠ _; rw [add_block]; exact Nat.ne_of_lt (Nat.lt_of_lt_of_le (by have := World.block_lt_of_cell? _ _ hw335_0; first | rwa [add_block] at this | exact this) GW302.out)) | (dsimp only; exact Nat.ne_of_lt (Nat.lt_of_lt_of_le (by have := World.block_lt_of_cell? _ _ hw335_0; first | rwa [add_block] at this | exact this) GW302.out))) _).trans (hHeld.2))⟩ (fun hHeld => ?_)
        clear hK K; refine done_ (done_of HT_.out (by kernel_rfl)) ?_
        have V0_ : IntKind.u8.wrap (Int.tdiv (rd l0 x7_1) 5) = Int.tdiv (rd l0 x7_1) 5 % 256 := by simp [IntKind.wrap, IntKind.bits, IntKind.signed]
        have T0_ : Int.tmod (Int.tdiv (rd l0 x7_1) 5 % 256) 9 = Int.tdiv (rd l0 x7_1) 5 % 256 % 9 := Int.tmod_eq_emod_of_nonneg (by omega)
        have W0a_ : wrap64 (Int.tdiv (rd l0 x7_1) 5 % 256 % 9) = Int.tdiv (rd l0 x7_1) 5 % 256 % 9 := by unfold wrap64; omega
        have W0b_ : wrap64 (Int.tdiv (rd l0 x7_1) 5 % 256 % 9 + 1) = Int.tdiv (rd l0 x7_1) 5 % 256 % 9 + 1 := by unfold wrap64; omega
        have V1_ : IntKind.u8.wrap (Int.tdiv (rd l0 x7_1) 9) = Int.tdiv (rd l0 x7_1) 9 % 256 := by simp [IntKind.wrap, IntKind.bits, IntKind.signed]
        have T1_ : Int.tmod (Int.tdiv (rd l0 x7_1) 9 % 256) 6 = Int.tdiv (rd l0 x7_1) 9 % 256 % 6 := Int.tmod_eq_emod_of_nonneg (by omega)
        have W1a_ : wrap64 (Int.tdiv (rd l0 x7_1) 9 % 256 % 6) = Int.tdiv (rd l0 x7_1) 9 % 256 % 6 := by unfold wrap64; omega
        have W1b_ : wrap64 (Int.tdiv (rd l0 x7_1) 9 % 256 % 6 + 1) = Int.tdiv (rd l0 x7_1) 9 % 256 % 6 + 1 := by unfold wrap64; omega
        simp only [V0_, T0_, W0a_, W0b_, V1_, T1_, W1a_, W1b_]
        clear V0_ T0_ W0a_ W0b_ V1_ T1_ W1a_ W1b_; have n0_ : Aside0 (Kd.N k30 30 ((w56.setCell ⟨gb302, 3, none⟩ (.int .i64 ((((Int.tdiv (rd l0 x7_1) 9) % 256) % 6) + 1))).setCell ⟨gb302, 4, none⟩ (.int .i64 ((((Int.tdiv (rd l0 x7_1) 5) % 256) % 9) + 1))) w.heap.size (fun k_ => (w.heap.size ≤ k_) ∧ k_ ≠ gb302) u5 x5_1) := ⟨by (with_reducible repeat (first | apply Kd.N_alloc | apply Kd.N_drewN | apply Kd.N_drew)); exact Kd.N_mono (Kd.N_far (p := ⟨gb302, 4, none⟩) (Kd.N_far (p := ⟨gb302, 3, none⟩) (Kd.N_mono HO_5.out (fun k_ hk => (⟨hk, hk.2⟩ : _ ∧ k_ ≠ gb302))) (fun _ hk => hk.2) (.int .i64 ((((Int.tdiv (rd l0 x7_1) 9) % 256) % 6) + 1))) (fun _ hk => hk.2) (.int .i64 ((((Int.tdiv (rd l0 x7_1) 5) % 256) % 9) + 1))) (fun _ hk => ⟨hk.1.1, hk.1.2⟩)⟩
        have n1_ : Aside0 (((w56.setCell ⟨gb302, 3, none⟩ (.int .i64 ((((Int.tdiv (rd l0 x7_1) 9) % 256) % 6) + 1))).setCell ⟨gb302, 4, none⟩ (.int .i64 ((((Int.tdiv (rd l0 x7_1) 5) % 256) % 9) + 1))).heap[gb302]? = some (.cells #[.int .i64 (wrap64 (x6_1 + (wrap64 (Int.tmod (rd l0 x7_1) 3)))), .int .i64 (((Int.tdiv (rd l0 x7_1) 3) % 256) % 3), .slice none 0 0, .int .i64 ((((Int.tdiv (rd l0 x7_1) 9) % 256) % 6) + 1), .int .i64 ((((Int.tdiv (rd l0 x7_1) 5) % 256) % 9) + 1)] 30 (0, 0))) := ⟨by (with_reducible repeat (first | refine blk_drewN ?_ _ | refine blk_drew ?_ | refine blk_alloc ?_ _)); refine blk_put (cs := #[.int .i64 (wrap64 (x6_1 + (wrap64 (Int.tmod (rd l0 x7_1) 3)))), .int .i64 (((Int.tdiv (rd l0 x7_1) 3) % 256) % 3), .slice none 0 0, .int .i64 ((((Int.tdiv (rd l0 x7_1) 9) % 256) % 6) + 1), .int .i64 0]) ?_ 4 _ rfl; (with_reducible repeat (first | refine blk_drewN ?_ _ | refine blk_drew ?_ | refine blk_alloc ?_ _)); refine blk_put (cs := #[.int .i64 (wrap64 (x6_1 + (wrap64 (Int.tmod (rd l0 x7_1) 3)))), .int .i64 (((Int.tdiv (rd l0 x7_1) 3) % 256) % 3), .slice none 0 0, .int .i64 0, .int .i64 0]) ?_ 3 _ rfl; (with_reducible repeat (first | refine blk_drewN ?_ _ | refine blk_drew ?_ | refine blk_alloc ?_ _)); exact BK302.out⟩
        have n2_ : Aside0 (Below w.heap.size w ((w56.setCell ⟨gb302, 3, none⟩ (.int .i64 ((((Int.tdiv (rd l0 x7_1) 9) % 256) % 6) + 1))).setCell ⟨gb302, 4, none⟩ (.int .i64 ((((Int.tdiv (rd l0 x7_1) 5) % 256) % 9) + 1)))) := ⟨by repeat (first | (with_reducible first | exact HB.out | apply below_alloc | apply pw_below_drewN | apply below_drew1 | refine below_set ?_ GE302.out) | exact HB.out)⟩
        (try clear HO_5)
        (try clear BK302)
        (try clear HB)
        generalize ((w56.setCell ⟨gb302, 3, none⟩ (.int .i64 ((((Int.tdiv (rd l0 x7_1) 9) % 256) % 6) + 1))).setCell ⟨gb302, 4, none⟩ (.int .i64 ((((Int.tdiv (rd l0 x7_1) 5) % 256) % 9) + 1))) = w59 at n0_ n1_ n2_ ⊢
        have HO_5 := n0_; have BK302 := n1_; have HB := n2_; clear n0_ n1_ n2_; have hcz60_0 : w59.cell? ⟨gb302, 0, none⟩ = some (.int .i64 (wrap64 (x6_1 + (wrap64 (Int.tmod (rd l0 x7_1) 3))))) := (blk_cell BK302.out 0).trans rfl
        have hcz60_1 : w59.cell? ⟨gb302, 1, none⟩ = some (.int .i64 (((Int.tdiv (rd l0 x7_1) 3) % 256) % 3)) := (blk_cell BK302.out 1).trans rfl
        have hcz60_2 : w59.cell? ⟨gb302, 2, none⟩ = some (.slice none 0 0) := (blk_cell BK302.out 2).trans rfl
        have hcz60_3 : w59.cell? ⟨gb302, 3, none⟩ = some (.int .i64 ((((Int.tdiv (rd l0 x7_1) 9) % 256) % 6) + 1)) := (blk_cell BK302.out 3).trans rfl
        have hcz60_4 : w59.cell? ⟨gb302, 4, none⟩ = some (.int .i64 ((((Int.tdiv (rd l0 x7_1) 5) % 256) % 9) + 1)) := (blk_cell BK302.out 4).trans rfl
        have hfz60_0 := blk_frozen BK302.out 0; have hfz60_1 := blk_frozen BK302.out 1; have hfz60_2 := blk_frozen BK302.out 2; have hfz60_3 := blk_frozen BK302.out 3; have hfz60_4 := blk_frozen BK302.out 4
        try go_wp2_with (first | ((with_reducible refine gate_dst (N := 85) rfl ?_); refine Kd.N_lit k30 _ 30 ?hg (N' := 85) ?hd (xs := ([(⟨wrap64 (x6_1 + (wrap64 (Int.tmod (rd l0 x7_1) 3))), ((Int.tdiv (rd l0 x7_1) 3) % 256) % 3, ([] : List Int), (((Int.tdiv (rd l0 x7_1) 9) % 256) % 6) + 1, (((Int.tdiv (rd l0 x7_1) 5) % 256) % 9) + 1⟩ : S30)] : List (S30))) (inner := [.int .i64 (wrap64 (x6_1 + (wrap64 (Int.tmod (rd l0 x7_1) 3)))), .int .i64 (((Int.tdiv (rd l0 x7_1) 3) % 256) % 3), .slice none 0 0, .int .i64 ((((Int.tdiv (rd l0 x7_1) 9) % 256) % 6) + 1), .int .i64 ((((Int.tdiv (rd l0 x7_1) 5) % 256) % 9) + 1)]) (ok := (fun k_ => (w.heap.size ≤ k_) ∧ some k_ ≠ (u5 : Value).ownBlock ∧ k_ ≠ gb302)) (okp := (fun k_ => (w.heap.size ≤ k_) ∧ some k_ ≠ (u5 : Value).ownBlock ∧ k_ ≠ gb302)) ?hr ?hp (fun _ hk => hk) ((show ∀ k_, w59.heap.size ≤ k_ → (fun k_ => (w.heap.size ≤ k_) ∧ some k_ ≠ (u5 : Value).ownBlock ∧ k_ ≠ gb302) k_ from fun k_ hk => ⟨(Nat.le_trans (below_size (by repeat (first | (with_reducible first | exact HB.out | apply below_alloc | apply pw_below_drewN | apply below_drew1 | refine below_set ?_ GE302.out) | exact HB.out))) hk), Kd.fresh' (Kd.N_lt (by (with_reducible repeat (first | apply Kd.N_alloc | apply Kd.N_drewN | apply Kd.N_drew)); exact HO_5.out)) k_ hk, Kd.freshB (g := gb302) (o := .cells #[.int .i64 (wrap64 (x6_1 + (wrap64 (Int.tmod (rd l0 x7_1) 3)))), .int .i64 (((Int.tdiv (rd l0 x7_1) 3) % 256) % 3), .slice none 0 0, .int .i64 ((((Int.tdiv (rd l0 x7_1) 9) % 256) % 6) + 1), .int .i64 ((((Int.tdiv (rd l0 x7_1) 5) % 256) % 9) + 1)] 30 (0, 0)) (by (with_reducible repeat (first | refine blk_drewN ?_ _ | refine blk_drew ?_ | refine blk_alloc ?_ _)); exact BK302.out) k_ hk⟩) _ (Nat.le_refl _)) (Below.refl _ _) (Nat.le_refl _) (by simp) ?_; (case hd => rfl); (case hg => rfl); (case hr => first | (go_simp; done) | (go_simp; rfl)); (case hp => exact (Reps.c5 (show Kd.FK k30 _ _ (⟨wrap64 (x6_1 + (wrap64 (Int.tmod (rd l0 x7_1) 3))), ((Int.tdiv (rd l0 x7_1) 3) % 256) % 3, ([] : List Int), (((Int.tdiv (rd l0 x7_1) 9) % 256) % 6) + 1, (((Int.tdiv (rd l0 x7_1) 5) % 256) % 9) + 1⟩ : S30) [.int .i64 (wrap64 (x6_1 + (wrap64 (Int.tmod (rd l0 x7_1) 3)))), .int .i64 (((Int.tdiv (rd l0 x7_1) 3) % 256) % 3), .slice none 0 0, .int .i64 ((((Int.tdiv (rd l0 x7_1) 9) % 256) % 6) + 1), .int .i64 ((((Int.tdiv (rd l0 x7_1) 5) % 256) % 9) + 1)] from (k30_mkF _ _ (⟨wrap64 (x6_1 + (wrap64 (Int.tmod (rd l0 x7_1) 3))), ((Int.tdiv (rd l0 x7_1) 3) % 256) % 3, ([] : List Int), (((Int.tdiv (rd l0 x7_1) 9) % 256) % 6) + 1, (((Int.tdiv (rd l0 x7_1) 5) % 256) % 9) + 1⟩ : S30) (Nat.le_refl _) (Kd.F_nil _ _ _))) (Reps.none _ _))); intro v337 w61 ho62 hb hg_ hnew_; clear hg_ hnew_; (first | rw [← Ny336.out] at ho62 | (simp only [Int.reduceToNat] at ho62; rw [← Ny336.out] at ho62)); have n0_ := Aside0.mk (Kd.N_elder' (by (with_reducible repeat (first | apply Kd.N_alloc | apply Kd.N_drewN | apply Kd.N_drew)); exact HO_5.out) (Kd.N_base ho62) hb); have n1_ := Aside0.mk (Kd.N_lower ho62 (below_size (by repeat (first | (with_reducible first | exact HB.out | apply below_alloc | apply pw_below_drewN | apply below_drew1 | refine below_set ?_ GE302.out) | exact HB.out)))); have n2_ := Aside0.mk (blk_below (g := gb302) (o := .cells #[.int .i64 (wrap64 (x6_1 + (wrap64 (Int.tmod (rd l0 x7_1) 3)))), .int .i64 (((Int.tdiv (rd l0 x7_1) 3) % 256) % 3), .slice none 0 0, .int .i64 ((((Int.tdiv (rd l0 x7_1) 9) % 256) % 6) + 1), .int .i64 ((((Int.tdiv (rd l0 x7_1) 5) % 256) % 9) + 1)] 30 (0, 0)) (by (with_reducible repeat (first | refine blk_drewN ?_ _ | refine blk_drew ?_ | refine blk_alloc ?_ _)); exact BK302.out) hb); have n3_ := Aside0.mk (below_step (by repeat (first | (with_reducible first | exact HB.out | apply below_alloc | apply pw_below_drewN | apply below_drew1 | refine below_set ?_ GE302.out) | exact HB.out)) hb); clear HO_5; clear BK302; clear HB; have HO_5 := n0_; have HO338 := n1_; have BK302 := n2_; have HB := n3_; clear n0_ n1_ n2_ n3_; clear hb ho62; obtain ⟨Ao64, co64, eo64⟩ := Kd.N_slice HO338.out; subst eo64) | ((with_reducible refine gate_builtin (b := .append) (xs := #[.tmp 83, .tmp 85]) rfl ?_); at_builtin; refine Kd.N_append_rows k30 (w0 := w) w.heap.size rfl (.tmp 83) (.tmp 85) 25 30 (.agg #[(.int .i64 0), (.int .i64 0), (.slice none 0 0), (.int .i64 0), (.int .i64 0)]) 56 rfl Try.underlying25 info30 rfl (by decide) (by omega) u5 x5_1 y336 _ _ _ (fun k_ => (w.heap.size ≤ k_) ∧ k_ ≠ gb302) (fun k_ => ((fun k_ => (w.heap.size ≤ k_) ∧ k_ ≠ gb302)) k_ ∧ some k_ ≠ (u5 : Value).ownBlock) rfl rfl ?aO ?aR (fun _ hk => hk) ?aF ?aB ?aS ?aL ?_; (case aR => exact (by skip; exact Kd.N_F (Kd.N_mono (ok' := (fun k_ => ((fun k_ => (w.heap.size ≤ k_) ∧ k_ ≠ gb302)) k_ ∧ some k_ ≠ (u5 : Value).ownBlock)) (HO338.out) (fun k_ hk => ⟨⟨hk.1, hk.2.2⟩, hk.2.1⟩)))); (case aB => exact (by repeat (first | (with_reducible first | exact HB.out | apply below_alloc | apply pw_below_drewN | apply below_drew1 | refine below_set ?_ GE302.out) | exact HB.out))); (case aF => exact (fun k_ hk => ⟨(Nat.le_trans (below_size (by repeat (first | (with_reducible first | exact HB.out | apply below_alloc | apply pw_below_drewN | apply below_drew1 | refine below_set ?_ GE302.out) | exact HB.out))) hk), Kd.freshB (g := gb302) (o := .cells #[.int .i64 (wrap64 (x6_1 + (wrap64 (Int.tmod (rd l0 x7_1) 3)))), .int .i64 (((Int.tdiv (rd l0 x7_1) 3) % 256) % 3), .slice none 0 0, .int .i64 ((((Int.tdiv (rd l0 x7_1) 9) % 256) % 6) + 1), .int .i64 ((((Int.tdiv (rd l0 x7_1) 5) % 256) % 9) + 1)] 30 (0, 0)) (by (with_reducible repeat (first | refine blk_drewN ?_ _ | refine blk_drew ?_ | refine blk_alloc ?_ _)); exact BK302.out) k_ hk⟩)); (case aO => exact (by (with_reducible repeat (first | apply Kd.N_alloc | apply Kd.N_drewN | apply Kd.N_drew)); exact Kd.N_mono HO_5.out (fun _ hk => ⟨hk.1.1, hk.1.2⟩))); (case aS => exact (below_size (by repeat (first | (with_reducible first | exact HB.out | apply below_alloc | apply pw_below_drewN | apply below_drew1 | refine below_set ?_ GE302.out) | exact HB.out)))); (case aL => have := LMc52.out; omega); intro v340 w63 ho hb hg hat; rw [← Ny339.out] at ho; have n0_ := Aside0.mk (blk_grown (g := gb302) (o := .cells #[.int .i64 (wrap64 (x6_1 + (wrap64 (Int.tmod (rd l0 x7_1) 3)))), .int .i64 (((Int.tdiv (rd l0 x7_1) 3) % 256) % 3), .slice none 0 0, .int .i64 ((((Int.tdiv (rd l0 x7_1) 9) % 256) % 6) + 1), .int .i64 ((((Int.tdiv (rd l0 x7_1) 5) % 256) % 9) + 1)] 30 (0, 0)) (by (with_reducible repeat (first | refine blk_drewN ?_ _ | refine blk_drew ?_ | refine blk_alloc ?_ _)); exact BK302.out) hg (Kd.N_away HO_5.out (fun _ hk => hk.1.2))); have n1_ := Aside0.mk (Kd.N_afterv (ok := (fun k_ => (w.heap.size ≤ k_) ∧ k_ ≠ gb302)) (by (with_reducible repeat (first | apply Kd.N_alloc | apply Kd.N_drewN | apply Kd.N_drew)); exact Kd.N_mono HO338.out (fun _ hk => ⟨⟨hk.1, hk.2.2⟩, hk.2.1⟩)) hg hat); have n2_ := Aside0.mk (hb); have n3_ := Aside0.mk (ho); clear BK302; clear HO338; clear HB; clear HO_5; have BK302 := n0_; have HO338 := n1_; have HB := n2_; have HO341 := n3_; clear n0_ n1_ n2_ n3_; clear ho hb hg hat))
        go_roundg k1
        case measure => have := HK1.out; omega
        case rel => exact ⟨(y339), (wrap64 (x6_1 + (wrap64 (Int.tmod (rd l0 x7_1) 3)))), (wrap64 (x7_1 + 1)), (by first | rfl | (simp; done) | (simp [*]; done)), (by first | rfl | (simp; done) | (simp [*]; done)), H', ⟨by have := HK1.out; omega⟩, ⟨by (with_reducible repeat (first | apply Kd.N_alloc | apply Kd.N_drewN | apply Kd.N_drew)); exact Kd.N_mono HO341.out (fun _ hk => hk.1)⟩, ⟨by repeat (first | (with_reducible first | exact HB.out | apply below_alloc | apply pw_below_drewN | apply below_drew1 | refine below_set ?_ GE302.out) | exact HB.out)⟩⟩
       ·rw [if_neg c52] at H
        exact absurd H (by simp)
    ·rw [if_neg c4] at H
     exact absurd H (by simp)
   ·rw [if_neg c3] at H
    have c3b0 : decide (x7_1 < (l0.length : Int)) = false := decide_eq_false c3
    clear c3; obtain rfl := Option.some.inj H
    go_wp2
    go_ret
    exact ⟨_, by first | rfl | (simp [errW_none, errW_some] <;> rfl) | (simp [*, errW_none, errW_some] <;> rfl), by (with_reducible repeat (first | apply Kd.N_alloc | apply Kd.N_drewN | apply Kd.N_drew)); exact HO_5.out, by repeat (first | (with_reducible first | exact HB.out | apply below_alloc | apply pw_below_drewN | apply below_drew1) | exact HB.out)⟩
end Go.Proofs.Ytmaefdeigienjaa.QEventReads
