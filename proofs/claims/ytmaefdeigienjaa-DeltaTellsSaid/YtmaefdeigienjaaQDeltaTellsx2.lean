/- Lean functions for the Go functions that the law reaches, and proofs that each call comes to just what its Lean function tells; no condition. (Written by a program of this session.) -/
import Derived.Test.YtmaefdeigienjaaQDeltaTellsx0
import Derived.Test.YtmaefdeigienjaaQDeltaTellsx1
namespace Go.Proofs.Ytmaefdeigienjaa.QDeltaTells
open Go.RowKit Go.Proofs.YtmaefdeigienjaaW.PrintWords Go.Proofs.YtmaefdeigienjaaW.PrintLast Go.Proofs.YtmaefdeigienjaaW.PrintMore
attribute [local go_sem] max2_int min2_int max_two min_two max_three min_three max_four min_four   -- for this text's walks alone
set_option linter.unusedVariables false
set_option linter.unusedSimpArgs false

/-! ### delta_Apply: function 30 -/
mutual
def delta_Apply.l0 : Nat → List Int → List Int → Int → List Int → Option (List Int × Int)
  | 0, _, _, _, _ => none
  | k + 1, x0, x1, x2, x8 => if (x1.length : Int) > 0 then ((delta_read.f k x1).bind fun bt129 => (if bt129.2.2.2.2 = 0 then (if 0 ≤ bt129.2.2.2.1 then (if bt129.2.2.2.1 ≤ (x1.length : Int) then ((some (x1.drop (bt129.2.2.2.1 : Int).toNat : List Int)).bind fun y135 => (if bt129.1 > (IntKind.u64.wrap (wrap64 ((mx x2 0) - (x8.length : Int)))) then (some (([] : List Int), 25)) else (if bt129.2.2.1 = true then (if bt129.2.1 > (IntKind.u64.wrap ((x0.length : Int))) then (delta_Apply.j1 k x0 y135 x2 x8 true bt129.1 bt129.2.1 bt129.2.2.1 bt129.2.2.2.1) else (delta_Apply.j1 k x0 y135 x2 x8 (decide (bt129.1 > (IntKind.u64.wrap ((IntKind.u64.wrap ((x0.length : Int))) - bt129.2.1)))) bt129.1 bt129.2.1 bt129.2.2.1 bt129.2.2.2.1)) else (delta_Apply.j1 k x0 y135 x2 x8 false bt129.1 bt129.2.1 bt129.2.2.1 bt129.2.2.2.1)))) else (none)) else (none)) else (some (([] : List Int), bt129.2.2.2.2)))) else (some (x8, 0))
def delta_Apply.j1 : Nat → List Int → List Int → Int → List Int → Bool → Int → Int → Bool → Int → Option (List Int × Int)
  | 0, _, _, _, _, _, _, _, _, _ => none
  | k + 1, x0, x1, x2, x8, x46, x135000, x135001, x135002, x135003 => if x46 = true then (some (([] : List Int), 21)) else (if x135002 = true then (if 0 ≤ x135001 then (if x135001 ≤ (IntKind.u64.wrap (x135001 + x135000)) then (if (IntKind.u64.wrap (x135001 + x135000)) ≤ (x0.length : Int) then (if x8.length + ((x0.take ((IntKind.u64.wrap (x135001 + x135000)) : Int).toNat).drop (x135001 : Int).toNat).length < 140737488355328 then (delta_Apply.l0 k x0 x1 x2 (x8 ++ ((x0.take ((IntKind.u64.wrap (x135001 + x135000)) : Int).toNat).drop (x135001 : Int).toNat))) else (none)) else (none)) else (none)) else (none)) else (if x135000 > (IntKind.u64.wrap ((x1.length : Int))) then (some (([] : List Int), 22)) else (if 0 ≤ x135000 then (if x135000 ≤ (x1.length : Int) then ((some (x1.take (x135000 : Int).toNat : List Int)).bind fun y144 => (if x8.length + y144.length < 140737488355328 then (delta_Apply.l0 k x0 (x1.drop (x135000 : Int).toNat) x2 (x8 ++ y144)) else (none))) else (none)) else (none))))
end
def delta_Apply.f (k : Nat) (l0 : List Int) (l1 : List Int) (a2 : Int) : Option (List Int × Int) := delta_Apply.l0 k l0 l1 a2 ([] : List Int)
theorem delta_Apply.mono_l : ∀ k, (∀ y0 y1 y2 y3, LeO (delta_Apply.l0 k y0 y1 y2 y3) (delta_Apply.l0 (k + 1) y0 y1 y2 y3)) ∧ (∀ y0 y1 y2 y3 y4 y5 y6 y7 y8, LeO (delta_Apply.j1 k y0 y1 y2 y3 y4 y5 y6 y7 y8) (delta_Apply.j1 (k + 1) y0 y1 y2 y3 y4 y5 y6 y7 y8))
  | 0 => ⟨fun _ _ _ _ r h => by simp [delta_Apply.l0] at h, fun _ _ _ _ _ _ _ _ _ r h => by simp [delta_Apply.j1] at h⟩
  | k + 1 => by
    obtain ⟨ih0, ih1⟩ := delta_Apply.mono_l k
    refine ⟨?_, ?_⟩
    · intro y0 y1 y2 y3
      unfold delta_Apply.l0
      repeat' first
      | (with_reducible exact ih0 _ _ _ _)
      | (with_reducible exact ih1 _ _ _ _ _ _ _ _ _)
      | (with_reducible exact delta_read.mono _ _)
      | (with_reducible exact LeO.refl _)
      | (with_reducible exact LeO.none _)
      | (with_reducible refine LeO.ite ?_ ?_)
      | (with_reducible refine LeO.bind ?_ (fun _ => ?_))
      | exact ih0 _ _ _ _
      | exact ih1 _ _ _ _ _ _ _ _ _
      | exact delta_read.mono _ _
      | exact LeO.none _
      | refine LeO.ite ?_ ?_
      | refine LeO.bind ?_ (fun _ => ?_)
    · intro y0 y1 y2 y3 y4 y5 y6 y7 y8
      unfold delta_Apply.j1
      repeat' first
      | (with_reducible exact ih0 _ _ _ _)
      | (with_reducible exact ih1 _ _ _ _ _ _ _ _ _)
      | (with_reducible exact delta_read.mono _ _)
      | (with_reducible exact LeO.refl _)
      | (with_reducible exact LeO.none _)
      | (with_reducible refine LeO.ite ?_ ?_)
      | (with_reducible refine LeO.bind ?_ (fun _ => ?_))
      | exact ih0 _ _ _ _
      | exact ih1 _ _ _ _ _ _ _ _ _
      | exact delta_read.mono _ _
      | exact LeO.none _
      | refine LeO.ite ?_ ?_
      | refine LeO.bind ?_ (fun _ => ?_)
theorem delta_Apply.mono : ∀ a0 a1 a2 k, LeO (delta_Apply.f k a0 a1 a2) (delta_Apply.f (k + 1) a0 a1 a2) := by
  intro a0 a1 a2 k
  obtain ⟨ih0, ih1⟩ := delta_Apply.mono_l k
  unfold delta_Apply.f
  repeat' first
      | (with_reducible exact ih0 _ _ _ _)
      | (with_reducible exact ih1 _ _ _ _ _ _ _ _ _)
      | (with_reducible exact delta_read.mono _ _)
      | (with_reducible exact LeO.refl _)
      | (with_reducible exact LeO.none _)
      | (with_reducible refine LeO.ite ?_ ?_)
      | (with_reducible refine LeO.bind ?_ (fun _ => ?_))
      | exact ih0 _ _ _ _
      | exact ih1 _ _ _ _ _ _ _ _ _
      | exact delta_read.mono _ _
      | exact LeO.none _
      | refine LeO.ite ?_ ?_
      | refine LeO.bind ?_ (fun _ => ?_)
def delta_Apply.T7 : Bool × List (List Nat × List Nat) := (true, [([], []), ([], []), ([], []), ([2], [2]), ([1, 3], [1, 3]), ([0, 4], [0, 4]), ([], []), ([], []), ([7], [7]), ([6, 8], [6, 8]), ([5, 5, 0, 1, 2, 3, 4, 5], [0, 5]), ([9, 10, 0, 1, 2, 3, 4, 5, 6, 7, 8, 9, 10], [1, 6, 9])])
def delta_Apply.B7 : List Nat := [0, 0, 0, 4, 14, 31, 0, 0, 128, 448, 63, 2047]
theorem delta_Apply.tab7 : rtab .any (opsOf Try.f30 7) = delta_Apply.T7 := by kernel_rfl
theorem delta_Apply.bits7 : waitsOk delta_Apply.T7.2 delta_Apply.B7 = true := by kernel_rfl
set_option maxHeartbeats 8000000 in
set_option maxRecDepth 100000 in
theorem delta_Apply.calls (k : Nat) (A0 : Option Addr) (c0 : Nat) (l0 : List Int) (P1_ : Nat → Prop) (A1 : Option Addr) (c1 : Nat) (l1 : List Int) (a2 : Int) (r1 : List Int) (r2 : Int) (w : World) (hr0 : Kd.C (Kd.int .u8) w A0 l0.length l0) (hc0 : l0.length ≤ c0) (hs1 : Kd.V (Kd.int .u8) 5 w w.heap.size (fun k_ => P1_ k_) (.slice A1 l1.length c1) l1) (h : delta_Apply.f k l0 l1 a2 = some (r1, r2)) :
    Calls Try.prog 30 #[.slice A0 l0.length c0, .slice A1 l1.length c1, .int .i64 a2] w fun e w' => ∃ v0_ : Value, e = .returned (.tuple #[v0_, .int .i64 r2]) ∧ Kd.R (Kd.int .u8) 5 w' w.heap.size (fun k_ => (w.heap.size ≤ k_)) v0_ r1 ∧ Below w.heap.size w w' := by
  have hu85 := Try.underlying85
  have HR0 := Aside0.mk hr0
  have HC0 := Aside0.mk hc0
  clear hr0 hc0
  have HO1 := Aside0.mk (show Kd.V (Kd.int .u8) 5 w w.heap.size (fun k_ => (P1_ k_ ∨ w.heap.size ≤ k_)) (.slice A1 l1.length c1) l1 from Kd.V_mono hs1 (fun k_ hk => .inl hk))
  have HB := Aside0.mk (Below.refl w.heap.size w)
  have H : (delta_Apply.l0 k l0 l1 a2 ([] : List Int)) = some (r1, r2) := h
  clear h
  have H' := Aside0.mk H
  clear H
  go_enter Try.func30, Try.ntmps30
  go_wp2
  go_loopg [1, 8] k (fun kq v1 v8 w' => ∃ (x1_1 : List Int) (x8_1 : List Int), Aside0 (delta_Apply.l0 kq l0 x1_1 a2 x8_1 = some (r1, r2)) ∧ Aside0 (kq ≤ k) ∧ Aside0 (Kd.V (Kd.int .u8) 5 w' w.heap.size (fun k_ => (P1_ k_ ∨ w.heap.size ≤ k_) ∧ some k_ ≠ (v8 : Value).ownBlock) v1 x1_1) ∧ Aside0 (Kd.R (Kd.int .u8) 5 w' w.heap.size (fun k_ => (w.heap.size ≤ k_)) v8 x8_1) ∧ Aside0 (Below w.heap.size w w'))
  case atStart => exact ⟨(l1), (([] : List Int)), H', ⟨Nat.le_refl _⟩, ⟨by (with_reducible repeat (first | apply Kd.V_alloc | apply Kd.V_drewN | apply Kd.V_drew)); exact Kd.V_mono HO1.out (fun _ hk => ⟨hk, (by simp [Value.ownBlock])⟩)⟩, ⟨by first | exact Kd.R_nil _ _ _ _ _ | exact Kd.N_nil _ _ _ _ _ | exact Kd.V_nil _ _ _ _ _ | exact Kd.Q_nil _ _ _ _ _ | exact Kd.S_nil _ _ _ _ _⟩, ⟨by repeat (first | (with_reducible first | exact HB.out | apply below_alloc | apply pw_below_drewN | apply below_drew1) | exact HB.out)⟩⟩
  case round =>
    clear H'
    try clear c1
    try clear p2
    try clear c3
    obtain ⟨x1_1, x8_1, HA, HK1, HO_1, HO_8, HB⟩ := hrel
    cases gk with
    | zero => exact absurd HA.out (by simp [delta_Apply.l0])
    | succ k1 =>
      have H := HA.out
      clear HA
      simp only [delta_Apply.l0] at H
      by_cases c4 : (x1_1.length : Int) > 0
      · rw [if_pos c4] at H
        have c4b0 : decide (0 < (x1_1.length : Int)) = true := decide_eq_true c4
        have c4b1 : decide (0 < x1_1.length) = true := decide_eq_true (by omega)
        clear c4
        replace H := Option.bind_eq_some_iff.mp H
        obtain ⟨⟨t129, t130, t131, t132, t133⟩, A50, H⟩ := H
        replace H : (if t133 = 0 then (if 0 ≤ t132 then (if t132 ≤ (x1_1.length : Int) then ((some (x1_1.drop (t132 : Int).toNat : List Int)).bind fun y135 => (if t129 > (IntKind.u64.wrap (wrap64 ((mx a2 0) - (x8_1.length : Int)))) then (some (([] : List Int), 25)) else (if t131 = true then (if t130 > (IntKind.u64.wrap ((l0.length : Int))) then (delta_Apply.j1 k1 l0 y135 a2 x8_1 true t129 t130 t131 t132) else (delta_Apply.j1 k1 l0 y135 a2 x8_1 (decide (t129 > (IntKind.u64.wrap ((IntKind.u64.wrap ((l0.length : Int))) - t130)))) t129 t130 t131 t132)) else (delta_Apply.j1 k1 l0 y135 a2 x8_1 false t129 t130 t131 t132)))) else (none)) else (none)) else (some (([] : List Int), t133))) = some (r1, r2) := H
        have A5 := Aside0.mk A50
        clear A50
        by_cases c6 : t133 = 0
        · rw [if_pos c6] at H
          have c6b0 : (t133 == 0) = true := beq_iff_eq.mpr c6
          have c6b1 : (t133 != 0) = false := bne_eq_false_iff_eq.mpr c6
          clear c6
          by_cases c7 : 0 ≤ t132
          · rw [if_pos c7] at H
            have c7b0 := eq_true c7
            have c7b1 : decide (0 ≤ t132) = true := decide_eq_true c7
            clear c7
            by_cases c8 : t132 ≤ (x1_1.length : Int)
            · rw [if_pos c8] at H
              have c8b0 := eq_true c8
              have c8b1 : decide (t132 ≤ (x1_1.length : Int)) = true := decide_eq_true c8
              clear c8
              obtain ⟨y135, hy135⟩ : ∃ y_ : List Int, y_ = (x1_1.drop (t132 : Int).toNat) := ⟨_, rfl⟩
              replace H : (if t129 > (IntKind.u64.wrap (wrap64 ((mx a2 0) - (x8_1.length : Int)))) then (some (([] : List Int), 25)) else (if t131 = true then (if t130 > (IntKind.u64.wrap ((l0.length : Int))) then (delta_Apply.j1 k1 l0 y135 a2 x8_1 true t129 t130 t131 t132) else (delta_Apply.j1 k1 l0 y135 a2 x8_1 (decide (t129 > (IntKind.u64.wrap ((IntKind.u64.wrap ((l0.length : Int))) - t130)))) t129 t130 t131 t132)) else (delta_Apply.j1 k1 l0 y135 a2 x8_1 false t129 t130 t131 t132))) = some (r1, r2) := by first | (rw [hy135]; with_reducible exact H) | (have H2_ := (Option.bind_some _ _).symm.trans H; rw [hy135]; with_reducible exact H2_) | (have H2_ := (Option.bind_some _ _).symm.trans H; with_reducible exact H2_) | with_reducible exact H | (rw [hy135]; exact H) | exact H
              have Ny135 := Aside0.mk hy135
              clear hy135
              obtain ⟨ji9, hji9⟩ : ∃ j_ : Int, (mx a2 0) = j_ := ⟨_, rfl⟩
              replace H : (if t129 > (IntKind.u64.wrap (wrap64 ((ji9) - (x8_1.length : Int)))) then (some (([] : List Int), 25)) else (if t131 = true then (if t130 > (IntKind.u64.wrap ((l0.length : Int))) then (delta_Apply.j1 k1 l0 y135 a2 x8_1 true t129 t130 t131 t132) else (delta_Apply.j1 k1 l0 y135 a2 x8_1 (decide (t129 > (IntKind.u64.wrap ((IntKind.u64.wrap ((l0.length : Int))) - t130)))) t129 t130 t131 t132)) else (delta_Apply.j1 k1 l0 y135 a2 x8_1 false t129 t130 t131 t132))) = some (r1, r2) := by first | (rw [hji9] at H; exact H) | (simp only [hji9] at H ⊢; exact H)
              (try rw [hji9] at A5)
              have hji9_ : (if a2 < 0 then 0 else a2) = ji9 := hji9
              by_cases c10 : t129 > (IntKind.u64.wrap (wrap64 ((ji9) - (x8_1.length : Int))))
              · rw [if_pos c10] at H
                have c10b0 : decide ((IntKind.u64.wrap (wrap64 ((ji9) - (x8_1.length : Int)))) < t129) = true := decide_eq_true c10
                clear c10
                simp only [Option.some.injEq, Prod.mk.injEq] at H
                obtain ⟨rfl, rfl⟩ := H
                obtain ⟨Ao11, co11, eo11⟩ := Kd.V_slice HO_1.out
                subst eo11
                go_wp2_with (first | ((with_reducible refine gate_callee (f := 50) rfl ?_); refine goesL_ (some 16) rfl rfl Try.func50 (by kernel_rfl) rfl #[.slice Ao11 x1_1.length co11] rfl (by (try simp only [List.map_toArray, List.map_cons, List.map_nil]); first | done | rfl | (simp only [List.length_drop, List.length_take]; rfl)) ?_; (with_reducible refine (delta_read.calls k1 _ _ x1_1 t129 t130 t131 t132 t133 _ ?side1 ?side2 A5.out).mono ?_); (case side1 => repeat (first | exact (Kd.V_reads' HO_1.out).2.2 | (with_reducible refine Kd.C_alloc ?_ _) | (with_reducible refine Kd.C_drewN ?_ _) | (with_reducible refine Kd.C_drew ?_))); (case side2 => exact (Kd.V_reads' HO_1.out).2.1); rintro e w12 ⟨rfl, hb⟩; refine ⟨_, rfl, ?_⟩; have n0_ := Aside0.mk (Kd.V_below (by (with_reducible repeat (first | apply Kd.V_alloc | apply Kd.V_drewN | apply Kd.V_drew)); exact HO_1.out) hb); have n1_ := Aside0.mk (Kd.R_below (by (with_reducible repeat (first | apply Kd.R_alloc | apply Kd.R_drewN | apply Kd.R_drew)); exact HO_8.out) hb); have n2_ := Aside0.mk (below_step (by repeat (first | (with_reducible first | exact HB.out | apply below_alloc | apply pw_below_drewN | apply below_drew1) | exact HB.out)) hb); clear HO_1; clear HO_8; clear HB; have HO_1 := n0_; have HO_8 := n1_; have HB := n2_; clear n0_ n1_ n2_; (try clear hb); (try clear hb2); (try clear hk); (try clear hi)) | ((with_reducible refine gate_dst (N := 9) rfl ?_); (try (refine gate_guard (by rfl) ?_; dsimp only)); refine box_event ?hg (N := 9) ?hd (cs := #[.int .u64 0, .int .u64 0, .bool false, .int .i64 0]) (t := 85) ?hr ?_; (case hd => rfl); (case hg => rfl); (case hr => first | (go_simp; done) | (go_simp; rfl)); intro gb134 hg w13 hbox hb; have n0_ := Aside0.mk (Kd.V_below (Kd.V_elderB (by (with_reducible repeat (first | apply Kd.V_alloc | apply Kd.V_drewN | apply Kd.V_drew)); exact HO_1.out) gb134 (Nat.le_of_eq hg.symm)) hb); have n1_ := Aside0.mk (Kd.R_below (by (with_reducible repeat (first | apply Kd.R_alloc | apply Kd.R_drewN | apply Kd.R_drew)); exact HO_8.out) hb); have n2_ := Aside0.mk (below_step (by repeat (first | (with_reducible first | exact HB.out | apply below_alloc | apply pw_below_drewN | apply below_drew1) | exact HB.out)) hb); have n3_ := Aside0.mk (hbox); have n4_ := Aside0.mk ((by rw [hg]; exact (below_size (by repeat (first | (with_reducible first | exact HB.out | apply below_alloc | apply pw_below_drewN | apply below_drew1) | exact HB.out))) : w.heap.size ≤ gb134)); have n5_ := Aside0.mk ((by rw [hg]; exact (below_size (by repeat (first | (with_reducible first | exact HB.out | apply below_alloc | apply pw_below_drewN | apply below_drew1) | exact HB.out))) : w.heap.size ≤ gb134)); clear HO_1; clear HO_8; clear HB; have HO_1 := n0_; have HO_8 := n1_; have HB := n2_; have BK134 := n3_; have GW134 := n4_; have GE134 := n5_; clear n0_ n1_ n2_ n3_ n4_ n5_; clear hb hbox hg; have hcz14_0 : w13.cell? ⟨gb134, 0, none⟩ = some (.int .u64 0) := (blk_cell BK134.out 0).trans rfl; have hcz14_1 : w13.cell? ⟨gb134, 1, none⟩ = some (.int .u64 0) := (blk_cell BK134.out 1).trans rfl; have hcz14_2 : w13.cell? ⟨gb134, 2, none⟩ = some (.bool false) := (blk_cell BK134.out 2).trans rfl; have hcz14_3 : w13.cell? ⟨gb134, 3, none⟩ = some (.int .i64 0) := (blk_cell BK134.out 3).trans rfl; have hfz14_0 := blk_frozen BK134.out 0; have hfz14_1 := blk_frozen BK134.out 1; have hfz14_2 := blk_frozen BK134.out 2; have hfz14_3 := blk_frozen BK134.out 3) | ((with_reducible refine gate_store (t := 85) (p := 9) rfl ?_); refine store_event (t := 85) (p := 9) (v := ?vo_w15) (w1 := ((((w13.setCell ⟨gb134, 0, none⟩ (.int .u64 t129)).setCell ⟨gb134, 1, none⟩ (.int .u64 t130)).setCell ⟨gb134, 2, none⟩ (.bool t131)).setCell ⟨gb134, 3, none⟩ (.int .i64 t132))) ?hg ?ho ?hn ?hr ?_; (case ho => rfl); (case hg => rfl); (case hn => rfl); (case hr => first | (go_simp; done) | (go_simp; rfl)); intro w15 hw; have n0_ : Aside0 (Kd.V (Kd.int .u8) 5 w15 w.heap.size (fun k_ => (P1_ k_ ∨ w.heap.size ≤ k_) ∧ some k_ ≠ (u8 : Value).ownBlock ∧ k_ ≠ gb134) (.slice Ao11 x1_1.length co11) x1_1) := ⟨(by rw [hw]; exact (by (with_reducible repeat (first | apply Kd.V_alloc | apply Kd.V_drewN | apply Kd.V_drew)); exact Kd.V_mono (Kd.V_far (p := ⟨gb134, 3, none⟩) (Kd.V_far (p := ⟨gb134, 2, none⟩) (Kd.V_far (p := ⟨gb134, 1, none⟩) (Kd.V_far (p := ⟨gb134, 0, none⟩) (Kd.V_mono HO_1.out (fun k_ hk => (⟨hk, hk.2⟩ : _ ∧ k_ ≠ gb134))) (fun _ hk => hk.2) (.int .u64 t129)) (fun _ hk => hk.2) (.int .u64 t130)) (fun _ hk => hk.2) (.bool t131)) (fun _ hk => hk.2) (.int .i64 t132)) (fun _ hk => ⟨hk.1.1.1, ⟨hk.1.1.2, hk.1.2⟩⟩)))⟩; have n1_ : Aside0 (Kd.R (Kd.int .u8) 5 w15 w.heap.size (fun k_ => (w.heap.size ≤ k_)) u8 x8_1) := ⟨(by rw [hw]; exact (by (with_reducible repeat (first | apply Kd.R_alloc | apply Kd.R_drewN | apply Kd.R_drew)); exact Kd.R_mono (Kd.R_far (p := ⟨gb134, 3, none⟩) (Kd.R_far (p := ⟨gb134, 2, none⟩) (Kd.R_far (p := ⟨gb134, 1, none⟩) (Kd.R_far (p := ⟨gb134, 0, none⟩) (Kd.R_types HO_8.out BK134.out (by decide)) (fun _ hk => hk.2) (.int .u64 t129)) (fun _ hk => hk.2) (.int .u64 t130)) (fun _ hk => hk.2) (.bool t131)) (fun _ hk => hk.2) (.int .i64 t132)) (fun _ hk => hk.1)))⟩; have n2_ : Aside0 (w15.heap[gb134]? = some (.cells #[.int .u64 t129, .int .u64 t130, .bool t131, .int .i64 t132] 85 (0, 0))) := ⟨(by rw [hw]; exact (by (with_reducible repeat (first | refine blk_drewN ?_ _ | refine blk_drew ?_ | refine blk_alloc ?_ _)); refine blk_put (cs := #[.int .u64 t129, .int .u64 t130, .bool t131, .int .i64 0]) ?_ 3 _ rfl; (with_reducible repeat (first | refine blk_drewN ?_ _ | refine blk_drew ?_ | refine blk_alloc ?_ _)); refine blk_put (cs := #[.int .u64 t129, .int .u64 t130, .bool false, .int .i64 0]) ?_ 2 _ rfl; (with_reducible repeat (first | refine blk_drewN ?_ _ | refine blk_drew ?_ | refine blk_alloc ?_ _)); refine blk_put (cs := #[.int .u64 t129, .int .u64 0, .bool false, .int .i64 0]) ?_ 1 _ rfl; (with_reducible repeat (first | refine blk_drewN ?_ _ | refine blk_drew ?_ | refine blk_alloc ?_ _)); refine blk_put (cs := #[.int .u64 0, .int .u64 0, .bool false, .int .i64 0]) ?_ 0 _ rfl; (with_reducible repeat (first | refine blk_drewN ?_ _ | refine blk_drew ?_ | refine blk_alloc ?_ _)); exact BK134.out))⟩; have n3_ : Aside0 (Below w.heap.size w w15) := ⟨(by rw [hw]; exact (by repeat (first | (with_reducible first | exact HB.out | apply below_alloc | apply pw_below_drewN | apply below_drew1 | refine below_set ?_ GE134.out) | exact HB.out)))⟩; clear hw; clear HO_1; clear HO_8; clear BK134; clear HB; have HO_1 := n0_; have HO_8 := n1_; have BK134 := n2_; have HB := n3_; clear n0_ n1_ n2_ n3_; have hcz16_0 : w15.cell? ⟨gb134, 0, none⟩ = some (.int .u64 t129) := (blk_cell BK134.out 0).trans rfl; have hcz16_1 : w15.cell? ⟨gb134, 1, none⟩ = some (.int .u64 t130) := (blk_cell BK134.out 1).trans rfl; have hcz16_2 : w15.cell? ⟨gb134, 2, none⟩ = some (.bool t131) := (blk_cell BK134.out 2).trans rfl; have hcz16_3 : w15.cell? ⟨gb134, 3, none⟩ = some (.int .i64 t132) := (blk_cell BK134.out 3).trans rfl; have hfz16_0 := blk_frozen BK134.out 0; have hfz16_1 := blk_frozen BK134.out 1; have hfz16_2 := blk_frozen BK134.out 2; have hfz16_3 := blk_frozen BK134.out 3; have q17 : (t132 : Int) ≤ ((x1_1.length : Int) : Int) := of_decide_eq_true (by first | (with_reducible assumption) | assumption); obtain ⟨i017, hi017, _, hsz17, _⟩ := info_parts info5; have hroom17 : x1_1.length ≤ co11 := (Kd.V_reads' HO_1.out).2.1; have hC17 : Kd.F (Kd.int .u8) _ _ Ao11 x1_1.length x1_1 := (Kd.V_at (base := w.heap.size) HO_1.out).2.2; have q017 : (0 : Int) ≤ (t132 : Int) := of_decide_eq_true (by first | (with_reducible assumption) | assumption); have hcut17 := cut_from (P := Try.prog) 22 5 .i64 Try.underlying22 hi017 1 hsz17 Ao11 x1_1.length co11 t132 q017 q17; have hr17 := Kd.F_cut (m := (t132 : Int).toNat) (c := co11) hC17 (by omega) hroom17; obtain ⟨A17, hA17⟩ : ∃ A1, A1 = (if co11 = (t132 : Int).toNat then Ao11 else (Ao11 : Option Addr).map (·.add ((t132 : Int).toNat * 1))) := ⟨_, rfl⟩; obtain ⟨c17, hc17⟩ : ∃ c1, c1 = co11 - (t132 : Int).toNat := ⟨_, rfl⟩; have hy17 : y135.length = x1_1.length - (t132 : Int).toNat := (by rw [Ny135.out, List.length_drop] <;> omega); rw [show (x1_1).drop (t132 : Int).toNat = y135 from Ny135.out.symm] at hr17; replace hr17 : Kd.F (Kd.int .u8) _ _ A17 y135.length y135 := (by rw [hA17]; exact hr17); rw [← hy17, ← hA17, ← hc17] at hcut17; have HO139 := Aside0.mk (show Kd.V (Kd.int .u8) 5 _ w.heap.size _ (.slice A17 y135.length c17) y135 from Kd.V_mk (by rw [hy17, hc17]; exact Nat.sub_le_sub_right hroom17 _) hr17); have HC139 := Aside0.mk (show y135.length ≤ c17 from by rw [hy17, hc17]; exact Nat.sub_le_sub_right hroom17 _); clear hr17 hC17 hroom17 hi017 hsz17 hc17; have KY17 := Aside0.mk hy17; have KA17 := Aside0.mk hA17; clear hy17 hA17; replace q17 := eq_true q17; obtain ⟨Ao18, co18, eo18⟩ := Kd.R_slice HO_8.out; subst eo18))
                go_ret2
                exact ⟨_, by first | rfl | (simp [errW_none, errW_some] <;> rfl) | (simp only [← hji9]; first | rfl | (simp [errW_none, errW_some] <;> rfl)) | (simp [*, errW_none, errW_some] <;> rfl), by first | exact Kd.R_nil _ _ _ _ _ | exact Kd.N_nil _ _ _ _ _ | exact Kd.V_nil _ _ _ _ _ | exact Kd.Q_nil _ _ _ _ _ | exact Kd.S_nil _ _ _ _ _, by repeat (first | (with_reducible first | exact HB.out | apply below_alloc | apply pw_below_drewN | apply below_drew1 | refine below_set ?_ GE134.out) | exact HB.out)⟩
              · rw [if_neg c10] at H
                have c10b0 : decide ((IntKind.u64.wrap (wrap64 ((ji9) - (x8_1.length : Int)))) < t129) = false := decide_eq_false c10
                clear c10
                have HC19 := Aside0.mk H
                clear H
                obtain ⟨Ao20, co20, eo20⟩ := Kd.V_slice HO_1.out
                subst eo20
                go_upto_region 10 with (first | ((with_reducible refine gate_callee (f := 50) rfl ?_); refine goesL_ (some 16) rfl rfl Try.func50 (by kernel_rfl) rfl #[.slice Ao20 x1_1.length co20] rfl (by (try simp only [List.map_toArray, List.map_cons, List.map_nil]); first | done | rfl | (simp only [List.length_drop, List.length_take]; rfl)) ?_; (with_reducible refine (delta_read.calls k1 _ _ x1_1 t129 t130 t131 t132 t133 _ ?side1 ?side2 A5.out).mono ?_); (case side1 => repeat (first | exact (Kd.V_reads' HO_1.out).2.2 | (with_reducible refine Kd.C_alloc ?_ _) | (with_reducible refine Kd.C_drewN ?_ _) | (with_reducible refine Kd.C_drew ?_))); (case side2 => exact (Kd.V_reads' HO_1.out).2.1); rintro e w21 ⟨rfl, hb⟩; refine ⟨_, rfl, ?_⟩; have n0_ := Aside0.mk (Kd.V_below (by (with_reducible repeat (first | apply Kd.V_alloc | apply Kd.V_drewN | apply Kd.V_drew)); exact HO_1.out) hb); have n1_ := Aside0.mk (Kd.R_below (by (with_reducible repeat (first | apply Kd.R_alloc | apply Kd.R_drewN | apply Kd.R_drew)); exact HO_8.out) hb); have n2_ := Aside0.mk (below_step (by repeat (first | (with_reducible first | exact HB.out | apply below_alloc | apply pw_below_drewN | apply below_drew1) | exact HB.out)) hb); clear HO_1; clear HO_8; clear HB; have HO_1 := n0_; have HO_8 := n1_; have HB := n2_; clear n0_ n1_ n2_; (try clear hb); (try clear hb2); (try clear hk); (try clear hi)) | ((with_reducible refine gate_dst (N := 9) rfl ?_); (try (refine gate_guard (by rfl) ?_; dsimp only)); refine box_event ?hg (N := 9) ?hd (cs := #[.int .u64 0, .int .u64 0, .bool false, .int .i64 0]) (t := 85) ?hr ?_; (case hd => rfl); (case hg => rfl); (case hr => first | (go_simp; done) | (go_simp; rfl)); intro gb134 hg w22 hbox hb; have n0_ := Aside0.mk (Kd.V_below (Kd.V_elderB (by (with_reducible repeat (first | apply Kd.V_alloc | apply Kd.V_drewN | apply Kd.V_drew)); exact HO_1.out) gb134 (Nat.le_of_eq hg.symm)) hb); have n1_ := Aside0.mk (Kd.R_below (by (with_reducible repeat (first | apply Kd.R_alloc | apply Kd.R_drewN | apply Kd.R_drew)); exact HO_8.out) hb); have n2_ := Aside0.mk (below_step (by repeat (first | (with_reducible first | exact HB.out | apply below_alloc | apply pw_below_drewN | apply below_drew1) | exact HB.out)) hb); have n3_ := Aside0.mk (hbox); have n4_ := Aside0.mk ((by rw [hg]; exact (below_size (by repeat (first | (with_reducible first | exact HB.out | apply below_alloc | apply pw_below_drewN | apply below_drew1) | exact HB.out))) : w.heap.size ≤ gb134)); have n5_ := Aside0.mk ((by rw [hg]; exact (below_size (by repeat (first | (with_reducible first | exact HB.out | apply below_alloc | apply pw_below_drewN | apply below_drew1) | exact HB.out))) : w.heap.size ≤ gb134)); clear HO_1; clear HO_8; clear HB; have HO_1 := n0_; have HO_8 := n1_; have HB := n2_; have BK134 := n3_; have GW134 := n4_; have GE134 := n5_; clear n0_ n1_ n2_ n3_ n4_ n5_; clear hb hbox hg; have hcz23_0 : w22.cell? ⟨gb134, 0, none⟩ = some (.int .u64 0) := (blk_cell BK134.out 0).trans rfl; have hcz23_1 : w22.cell? ⟨gb134, 1, none⟩ = some (.int .u64 0) := (blk_cell BK134.out 1).trans rfl; have hcz23_2 : w22.cell? ⟨gb134, 2, none⟩ = some (.bool false) := (blk_cell BK134.out 2).trans rfl; have hcz23_3 : w22.cell? ⟨gb134, 3, none⟩ = some (.int .i64 0) := (blk_cell BK134.out 3).trans rfl; have hfz23_0 := blk_frozen BK134.out 0; have hfz23_1 := blk_frozen BK134.out 1; have hfz23_2 := blk_frozen BK134.out 2; have hfz23_3 := blk_frozen BK134.out 3) | ((with_reducible refine gate_store (t := 85) (p := 9) rfl ?_); refine store_event (t := 85) (p := 9) (v := ?vo_w24) (w1 := ((((w22.setCell ⟨gb134, 0, none⟩ (.int .u64 t129)).setCell ⟨gb134, 1, none⟩ (.int .u64 t130)).setCell ⟨gb134, 2, none⟩ (.bool t131)).setCell ⟨gb134, 3, none⟩ (.int .i64 t132))) ?hg ?ho ?hn ?hr ?_; (case ho => rfl); (case hg => rfl); (case hn => rfl); (case hr => first | (go_simp; done) | (go_simp; rfl)); intro w24 hw; have n0_ : Aside0 (Kd.V (Kd.int .u8) 5 w24 w.heap.size (fun k_ => (P1_ k_ ∨ w.heap.size ≤ k_) ∧ some k_ ≠ (u8 : Value).ownBlock ∧ k_ ≠ gb134) (.slice Ao20 x1_1.length co20) x1_1) := ⟨(by rw [hw]; exact (by (with_reducible repeat (first | apply Kd.V_alloc | apply Kd.V_drewN | apply Kd.V_drew)); exact Kd.V_mono (Kd.V_far (p := ⟨gb134, 3, none⟩) (Kd.V_far (p := ⟨gb134, 2, none⟩) (Kd.V_far (p := ⟨gb134, 1, none⟩) (Kd.V_far (p := ⟨gb134, 0, none⟩) (Kd.V_mono HO_1.out (fun k_ hk => (⟨hk, hk.2⟩ : _ ∧ k_ ≠ gb134))) (fun _ hk => hk.2) (.int .u64 t129)) (fun _ hk => hk.2) (.int .u64 t130)) (fun _ hk => hk.2) (.bool t131)) (fun _ hk => hk.2) (.int .i64 t132)) (fun _ hk => ⟨hk.1.1.1, ⟨hk.1.1.2, hk.1.2⟩⟩)))⟩; have n1_ : Aside0 (Kd.R (Kd.int .u8) 5 w24 w.heap.size (fun k_ => (w.heap.size ≤ k_)) u8 x8_1) := ⟨(by rw [hw]; exact (by (with_reducible repeat (first | apply Kd.R_alloc | apply Kd.R_drewN | apply Kd.R_drew)); exact Kd.R_mono (Kd.R_far (p := ⟨gb134, 3, none⟩) (Kd.R_far (p := ⟨gb134, 2, none⟩) (Kd.R_far (p := ⟨gb134, 1, none⟩) (Kd.R_far (p := ⟨gb134, 0, none⟩) (Kd.R_types HO_8.out BK134.out (by decide)) (fun _ hk => hk.2) (.int .u64 t129)) (fun _ hk => hk.2) (.int .u64 t130)) (fun _ hk => hk.2) (.bool t131)) (fun _ hk => hk.2) (.int .i64 t132)) (fun _ hk => hk.1)))⟩; have n2_ : Aside0 (w24.heap[gb134]? = some (.cells #[.int .u64 t129, .int .u64 t130, .bool t131, .int .i64 t132] 85 (0, 0))) := ⟨(by rw [hw]; exact (by (with_reducible repeat (first | refine blk_drewN ?_ _ | refine blk_drew ?_ | refine blk_alloc ?_ _)); refine blk_put (cs := #[.int .u64 t129, .int .u64 t130, .bool t131, .int .i64 0]) ?_ 3 _ rfl; (with_reducible repeat (first | refine blk_drewN ?_ _ | refine blk_drew ?_ | refine blk_alloc ?_ _)); refine blk_put (cs := #[.int .u64 t129, .int .u64 t130, .bool false, .int .i64 0]) ?_ 2 _ rfl; (with_reducible repeat (first | refine blk_drewN ?_ _ | refine blk_drew ?_ | refine blk_alloc ?_ _)); refine blk_put (cs := #[.int .u64 t129, .int .u64 0, .bool false, .int .i64 0]) ?_ 1 _ rfl; (with_reducible repeat (first | refine blk_drewN ?_ _ | refine blk_drew ?_ | refine blk_alloc ?_ _)); refine blk_put (cs := #[.int .u64 0, .int .u64 0, .bool false, .int .i64 0]) ?_ 0 _ rfl; (with_reducible repeat (first | refine blk_drewN ?_ _ | refine blk_drew ?_ | refine blk_alloc ?_ _)); exact BK134.out))⟩; have n3_ : Aside0 (Below w.heap.size w w24) := ⟨(by rw [hw]; exact (by repeat (first | (with_reducible first | exact HB.out | apply below_alloc | apply pw_below_drewN | apply below_drew1 | refine below_set ?_ GE134.out) | exact HB.out)))⟩; clear hw; clear HO_1; clear HO_8; clear BK134; clear HB; have HO_1 := n0_; have HO_8 := n1_; have BK134 := n2_; have HB := n3_; clear n0_ n1_ n2_ n3_; have hcz25_0 : w24.cell? ⟨gb134, 0, none⟩ = some (.int .u64 t129) := (blk_cell BK134.out 0).trans rfl; have hcz25_1 : w24.cell? ⟨gb134, 1, none⟩ = some (.int .u64 t130) := (blk_cell BK134.out 1).trans rfl; have hcz25_2 : w24.cell? ⟨gb134, 2, none⟩ = some (.bool t131) := (blk_cell BK134.out 2).trans rfl; have hcz25_3 : w24.cell? ⟨gb134, 3, none⟩ = some (.int .i64 t132) := (blk_cell BK134.out 3).trans rfl; have hfz25_0 := blk_frozen BK134.out 0; have hfz25_1 := blk_frozen BK134.out 1; have hfz25_2 := blk_frozen BK134.out 2; have hfz25_3 := blk_frozen BK134.out 3; have q26 : (t132 : Int) ≤ ((x1_1.length : Int) : Int) := of_decide_eq_true (by first | (with_reducible assumption) | assumption); obtain ⟨i026, hi026, _, hsz26, _⟩ := info_parts info5; have hroom26 : x1_1.length ≤ co20 := (Kd.V_reads' HO_1.out).2.1; have hC26 : Kd.F (Kd.int .u8) _ _ Ao20 x1_1.length x1_1 := (Kd.V_at (base := w.heap.size) HO_1.out).2.2; have q026 : (0 : Int) ≤ (t132 : Int) := of_decide_eq_true (by first | (with_reducible assumption) | assumption); have hcut26 := cut_from (P := Try.prog) 22 5 .i64 Try.underlying22 hi026 1 hsz26 Ao20 x1_1.length co20 t132 q026 q26; have hr26 := Kd.F_cut (m := (t132 : Int).toNat) (c := co20) hC26 (by omega) hroom26; obtain ⟨A26, hA26⟩ : ∃ A1, A1 = (if co20 = (t132 : Int).toNat then Ao20 else (Ao20 : Option Addr).map (·.add ((t132 : Int).toNat * 1))) := ⟨_, rfl⟩; obtain ⟨c26, hc26⟩ : ∃ c1, c1 = co20 - (t132 : Int).toNat := ⟨_, rfl⟩; have hy26 : y135.length = x1_1.length - (t132 : Int).toNat := (by rw [Ny135.out, List.length_drop] <;> omega); rw [show (x1_1).drop (t132 : Int).toNat = y135 from Ny135.out.symm] at hr26; replace hr26 : Kd.F (Kd.int .u8) _ _ A26 y135.length y135 := (by rw [hA26]; exact hr26); rw [← hy26, ← hA26, ← hc26] at hcut26; have HO139 := Aside0.mk (show Kd.V (Kd.int .u8) 5 _ w.heap.size _ (.slice A26 y135.length c26) y135 from Kd.V_mk (by rw [hy26, hc26]; exact Nat.sub_le_sub_right hroom26 _) hr26); have HC139 := Aside0.mk (show y135.length ≤ c26 from by rw [hy26, hc26]; exact Nat.sub_le_sub_right hroom26 _); clear hr26 hC26 hroom26 hi026 hsz26 hc26; have KY26 := Aside0.mk hy26; have KA26 := Aside0.mk hA26; clear hy26 hA26; replace q26 := eq_true q26; obtain ⟨Ao27, co27, eo27⟩ := Kd.R_slice HO_8.out; subst eo27))
                (try simp only [Act.put, List.setIfInBounds_toArray, List.set_cons_zero, List.set_cons_succ])
                go_cut [46] (fun v46 wc => ∃ (kq : Nat) (x46_18 : Bool), v46 = .bool x46_18 ∧ Aside0 (delta_Apply.j1 kq l0 y135 a2 x8_1 x46_18 t129 t130 t131 t132 = some (r1, r2)) ∧ Aside0 (kq ≤ k1) ∧ Aside0 (Kd.V (Kd.int .u8) 5 wc w.heap.size (fun k_ => (P1_ k_ ∨ w.heap.size ≤ k_) ∧ some k_ ≠ ((.slice Ao27 x8_1.length co27) : Value).ownBlock ∧ k_ ≠ gb134) (.slice A26 y135.length c26) y135) ∧ Aside0 (Kd.R (Kd.int .u8) 5 wc w.heap.size (fun k_ => (w.heap.size ≤ k_)) (.slice Ao27 x8_1.length co27) x8_1) ∧ Aside0 (wc.heap[gb134]? = some (.cells #[.int .u64 t129, .int .u64 t130, .bool t131, .int .i64 t132] 85 (0, 0))) ∧ Aside0 (Below w.heap.size w wc))
                case first =>
                  have H := HC19.out
                  clear HC19
                  by_cases c28 : t131 = true
                  · subst c28
                    have H1 : (if t130 > (IntKind.u64.wrap ((l0.length : Int))) then (delta_Apply.j1 k1 l0 y135 a2 x8_1 true t129 t130 true t132) else (delta_Apply.j1 k1 l0 y135 a2 x8_1 (decide (t129 > (IntKind.u64.wrap ((IntKind.u64.wrap ((l0.length : Int))) - t130)))) t129 t130 true t132)) = some (r1, r2) := by rw [if_pos rfl] at H; exact H
                    clear H
                    have H := H1
                    clear H1
                    by_cases c29 : t130 > (IntKind.u64.wrap ((l0.length : Int)))
                    · rw [if_pos c29] at H
                      have c29b0 : decide ((IntKind.u64.wrap ((l0.length : Int))) < t130) = true := decide_eq_true c29
                      clear c29
                      (first | rw [c29b0] | (simp only [i64_w, i32_w]; rw [c29b0]) | skip)
                      have H' := Aside0.mk H
                      clear H
                      have hcz30_0 : w24.cell? ⟨gb134, 0, none⟩ = some (.int .u64 t129) := (blk_cell BK134.out 0).trans rfl
                      have hcz30_1 : w24.cell? ⟨gb134, 1, none⟩ = some (.int .u64 t130) := (blk_cell BK134.out 1).trans rfl
                      have hcz30_2 : w24.cell? ⟨gb134, 2, none⟩ = some (.bool true) := (blk_cell BK134.out 2).trans rfl
                      have hcz30_3 : w24.cell? ⟨gb134, 3, none⟩ = some (.int .i64 t132) := (blk_cell BK134.out 3).trans rfl
                      have hfz30_0 := blk_frozen BK134.out 0
                      have hfz30_1 := blk_frozen BK134.out 1
                      have hfz30_2 := blk_frozen BK134.out 2
                      have hfz30_3 := blk_frozen BK134.out 3
                      go_wp2
                      go_meet
                      case rel => exact ⟨_, (true), (by first | rfl | (simp; done) | (simp [*]; done)), H', ⟨by have := HK1.out; first | omega | exact Nat.le_refl _⟩, ⟨by (with_reducible repeat (first | apply Kd.V_alloc | apply Kd.V_drewN | apply Kd.V_drew)); exact HO139.out⟩, ⟨by (with_reducible repeat (first | apply Kd.R_alloc | apply Kd.R_drewN | apply Kd.R_drew)); exact HO_8.out⟩, ⟨by (with_reducible repeat (first | refine blk_drewN ?_ _ | refine blk_drew ?_ | refine blk_alloc ?_ _)); exact BK134.out⟩, ⟨by repeat (first | (with_reducible first | exact HB.out | apply below_alloc | apply pw_below_drewN | apply below_drew1 | refine below_set ?_ GE134.out) | exact HB.out)⟩⟩
                    · rw [if_neg c29] at H
                      have c29b0 : decide ((IntKind.u64.wrap ((l0.length : Int))) < t130) = false := decide_eq_false c29
                      clear c29
                      (first | rw [c29b0] | (simp only [i64_w, i32_w]; rw [c29b0]) | skip)
                      have H' := Aside0.mk H
                      clear H
                      have hcz31_0 : w24.cell? ⟨gb134, 0, none⟩ = some (.int .u64 t129) := (blk_cell BK134.out 0).trans rfl
                      have hcz31_1 : w24.cell? ⟨gb134, 1, none⟩ = some (.int .u64 t130) := (blk_cell BK134.out 1).trans rfl
                      have hcz31_2 : w24.cell? ⟨gb134, 2, none⟩ = some (.bool true) := (blk_cell BK134.out 2).trans rfl
                      have hcz31_3 : w24.cell? ⟨gb134, 3, none⟩ = some (.int .i64 t132) := (blk_cell BK134.out 3).trans rfl
                      have hfz31_0 := blk_frozen BK134.out 0
                      have hfz31_1 := blk_frozen BK134.out 1
                      have hfz31_2 := blk_frozen BK134.out 2
                      have hfz31_3 := blk_frozen BK134.out 3
                      go_wp2
                      go_meet
                      case rel => exact ⟨_, (decide (t129 > (IntKind.u64.wrap ((IntKind.u64.wrap ((l0.length : Int))) - t130)))), (by first | rfl | (simp; done) | (simp [*]; done)), H', ⟨by have := HK1.out; first | omega | exact Nat.le_refl _⟩, ⟨by (with_reducible repeat (first | apply Kd.V_alloc | apply Kd.V_drewN | apply Kd.V_drew)); exact HO139.out⟩, ⟨by (with_reducible repeat (first | apply Kd.R_alloc | apply Kd.R_drewN | apply Kd.R_drew)); exact HO_8.out⟩, ⟨by (with_reducible repeat (first | refine blk_drewN ?_ _ | refine blk_drew ?_ | refine blk_alloc ?_ _)); exact BK134.out⟩, ⟨by repeat (first | (with_reducible first | exact HB.out | apply below_alloc | apply pw_below_drewN | apply below_drew1 | refine below_set ?_ GE134.out) | exact HB.out)⟩⟩
                  · replace c28 := Bool.eq_false_iff.mpr c28
                    subst c28
                    have H1 : (delta_Apply.j1 k1 l0 y135 a2 x8_1 false t129 t130 false t132) = some (r1, r2) := by rw [if_neg (show ¬ (false = true) by decide)] at H; exact H
                    clear H
                    have H := H1
                    clear H1
                    have H' := Aside0.mk H
                    clear H
                    have hcz32_0 : w24.cell? ⟨gb134, 0, none⟩ = some (.int .u64 t129) := (blk_cell BK134.out 0).trans rfl
                    have hcz32_1 : w24.cell? ⟨gb134, 1, none⟩ = some (.int .u64 t130) := (blk_cell BK134.out 1).trans rfl
                    have hcz32_2 : w24.cell? ⟨gb134, 2, none⟩ = some (.bool false) := (blk_cell BK134.out 2).trans rfl
                    have hcz32_3 : w24.cell? ⟨gb134, 3, none⟩ = some (.int .i64 t132) := (blk_cell BK134.out 3).trans rfl
                    have hfz32_0 := blk_frozen BK134.out 0
                    have hfz32_1 := blk_frozen BK134.out 1
                    have hfz32_2 := blk_frozen BK134.out 2
                    have hfz32_3 := blk_frozen BK134.out 3
                    go_wp2
                    go_meet
                    case rel => exact ⟨_, (false), (by first | rfl | (simp; done) | (simp [*]; done)), H', ⟨by have := HK1.out; first | omega | exact Nat.le_refl _⟩, ⟨by (with_reducible repeat (first | apply Kd.V_alloc | apply Kd.V_drewN | apply Kd.V_drew)); exact HO139.out⟩, ⟨by (with_reducible repeat (first | apply Kd.R_alloc | apply Kd.R_drewN | apply Kd.R_drew)); exact HO_8.out⟩, ⟨by (with_reducible repeat (first | refine blk_drewN ?_ _ | refine blk_drew ?_ | refine blk_alloc ?_ _)); exact BK134.out⟩, ⟨by repeat (first | (with_reducible first | exact HB.out | apply below_alloc | apply pw_below_drewN | apply below_drew1 | refine below_set ?_ GE134.out) | exact HB.out)⟩⟩
                case rest =>
                  clear HC19
                  try clear c1
                  try clear q1
                  try clear c2
                  try clear p2
                  try clear q2
                  try clear c3
                  try clear c4
                  try clear c4b0
                  try clear c4b1
                  try clear c5
                  try clear c6
                  try clear c6b0
                  try clear c6b1
                  try clear p6
                  try clear c7
                  try clear c7b0
                  try clear c7b1
                  try clear c8
                  try clear c8b0
                  try clear c8b1
                  try clear c10
                  try clear c10b0
                  try clear c17
                  try clear q17
                  try clear c26
                  try clear q26
                  try clear c28
                  try clear c29
                  try clear c29b0
                  try clear c30
                  try clear hcz14_0
                  try clear hcz14_1
                  try clear hcz14_2
                  try clear hcz14_3
                  try clear hcz16_0
                  try clear hcz16_1
                  try clear hcz16_2
                  try clear hcz16_3
                  try clear hcz23_0
                  try clear hcz23_1
                  try clear hcz23_2
                  try clear hcz23_3
                  try clear hcz25_0
                  try clear hcz25_1
                  try clear hcz25_2
                  try clear hcz25_3
                  try clear hcz30_0
                  try clear hcz30_1
                  try clear hcz30_2
                  try clear hcz30_3
                  try clear hcz31_0
                  try clear hcz31_1
                  try clear hcz31_2
                  try clear hcz31_3
                  try clear hcz32_0
                  try clear hcz32_1
                  try clear hcz32_2
                  try clear hcz32_3
                  try clear hfz14_0
                  try clear hfz14_1
                  try clear hfz14_2
                  try clear hfz14_3
                  try clear hfz16_0
                  try clear hfz16_1
                  try clear hfz16_2
                  try clear hfz16_3
                  try clear hfz23_0
                  try clear hfz23_1
                  try clear hfz23_2
                  try clear hfz23_3
                  try clear hfz25_0
                  try clear hfz25_1
                  try clear hfz25_2
                  try clear hfz25_3
                  try clear hfz30_0
                  try clear hfz30_1
                  try clear hfz30_2
                  try clear hfz30_3
                  try clear hfz31_0
                  try clear hfz31_1
                  try clear hfz31_2
                  try clear hfz31_3
                  try clear hfz32_0
                  try clear hfz32_1
                  try clear hfz32_2
                  try clear hfz32_3
                  try clear p2
                  try clear q017
                  try clear q026
                  try clear q17
                  try clear q26
                  obtain ⟨kq, x46_18, rfl, HA, HJ18, HO_1, HO_8, BK134, HB⟩ := hcut
                  cases kq with
                  | zero => exact absurd HA.out (by simp [delta_Apply.j1])
                  | succ kj18 =>
                    have H := HA.out
                    clear HA
                    simp only [delta_Apply.j1] at H
                    by_cases c33 : x46_18 = true
                    · subst c33
                      have H1 : (some (([] : List Int), 21)) = some (r1, r2) := by rw [if_pos rfl] at H; exact H
                      clear H
                      have H := H1
                      clear H1
                      simp only [Option.some.injEq, Prod.mk.injEq] at H
                      obtain ⟨rfl, rfl⟩ := H
                      go_wp2
                      go_ret2
                      exact ⟨_, by first | rfl | (simp [errW_none, errW_some] <;> rfl) | (simp only [← hji9]; first | rfl | (simp [errW_none, errW_some] <;> rfl)) | (simp [*, errW_none, errW_some] <;> rfl), by first | exact Kd.R_nil _ _ _ _ _ | exact Kd.N_nil _ _ _ _ _ | exact Kd.V_nil _ _ _ _ _ | exact Kd.Q_nil _ _ _ _ _ | exact Kd.S_nil _ _ _ _ _, by repeat (first | (with_reducible first | exact HB.out | apply below_alloc | apply pw_below_drewN | apply below_drew1 | refine below_set ?_ GE134.out) | exact HB.out)⟩
                    · replace c33 := Bool.eq_false_iff.mpr c33
                      subst c33
                      have H1 : (if t131 = true then (if 0 ≤ t130 then (if t130 ≤ (IntKind.u64.wrap (t130 + t129)) then (if (IntKind.u64.wrap (t130 + t129)) ≤ (l0.length : Int) then (if x8_1.length + ((l0.take ((IntKind.u64.wrap (t130 + t129)) : Int).toNat).drop (t130 : Int).toNat).length < 140737488355328 then (delta_Apply.l0 kj18 l0 y135 a2 (x8_1 ++ ((l0.take ((IntKind.u64.wrap (t130 + t129)) : Int).toNat).drop (t130 : Int).toNat))) else (none)) else (none)) else (none)) else (none)) else (if t129 > (IntKind.u64.wrap ((y135.length : Int))) then (some (([] : List Int), 22)) else (if 0 ≤ t129 then (if t129 ≤ (y135.length : Int) then ((some (y135.take (t129 : Int).toNat : List Int)).bind fun y144 => (if x8_1.length + y144.length < 140737488355328 then (delta_Apply.l0 kj18 l0 (y135.drop (t129 : Int).toNat) a2 (x8_1 ++ y144)) else (none))) else (none)) else (none)))) = some (r1, r2) := by rw [if_neg (show ¬ (false = true) by decide)] at H; exact H
                      clear H
                      have H := H1
                      clear H1
                      by_cases c34 : t131 = true
                      · subst c34
                        have H1 : (if 0 ≤ t130 then (if t130 ≤ (IntKind.u64.wrap (t130 + t129)) then (if (IntKind.u64.wrap (t130 + t129)) ≤ (l0.length : Int) then (if x8_1.length + ((l0.take ((IntKind.u64.wrap (t130 + t129)) : Int).toNat).drop (t130 : Int).toNat).length < 140737488355328 then (delta_Apply.l0 kj18 l0 y135 a2 (x8_1 ++ ((l0.take ((IntKind.u64.wrap (t130 + t129)) : Int).toNat).drop (t130 : Int).toNat))) else (none)) else (none)) else (none)) else (none)) = some (r1, r2) := by rw [if_pos rfl] at H; exact H
                        clear H
                        have H := H1
                        clear H1
                        by_cases c35 : 0 ≤ t130
                        · rw [if_pos c35] at H
                          have c35b0 := eq_true c35
                          have c35b1 : decide (0 ≤ t130) = true := decide_eq_true c35
                          clear c35
                          by_cases c36 : t130 ≤ (IntKind.u64.wrap (t130 + t129))
                          · rw [if_pos c36] at H
                            have c36b0 := eq_true c36
                            have c36b1 : decide (t130 ≤ (IntKind.u64.wrap (t130 + t129))) = true := decide_eq_true c36
                            by_cases c37 : (IntKind.u64.wrap (t130 + t129)) ≤ (l0.length : Int)
                            · rw [if_pos c37] at H
                              have c37b0 := eq_true c37
                              have c37b1 : decide ((IntKind.u64.wrap (t130 + t129)) ≤ (l0.length : Int)) = true := decide_eq_true c37
                              by_cases c38 : x8_1.length + ((l0.take ((IntKind.u64.wrap (t130 + t129)) : Int).toNat).drop (t130 : Int).toNat).length < 140737488355328
                              · rw [if_pos c38] at H
                                have LMc38 := Aside0.mk c38
                                clear c38
                                obtain ⟨y141, hy141⟩ : ∃ y_ : List Int, y_ = (x8_1 ++ ((l0.take ((IntKind.u64.wrap (t130 + t129)) : Int).toNat).drop (t130 : Int).toNat)) := ⟨_, rfl⟩
                                replace H : (delta_Apply.l0 kj18 l0 y135 a2 y141) = some (r1, r2) := by first | (rw [hy141]; with_reducible exact H) | (have H2_ := (Option.bind_some _ _).symm.trans H; rw [hy141]; with_reducible exact H2_) | (have H2_ := (Option.bind_some _ _).symm.trans H; with_reducible exact H2_) | with_reducible exact H | (rw [hy141]; exact H) | exact H
                                have Ny141 := Aside0.mk hy141
                                clear hy141
                                have H' := Aside0.mk H
                                clear H
                                have hcz39_0 : wc.cell? ⟨gb134, 0, none⟩ = some (.int .u64 t129) := (blk_cell BK134.out 0).trans rfl
                                have hcz39_1 : wc.cell? ⟨gb134, 1, none⟩ = some (.int .u64 t130) := (blk_cell BK134.out 1).trans rfl
                                have hcz39_2 : wc.cell? ⟨gb134, 2, none⟩ = some (.bool true) := (blk_cell BK134.out 2).trans rfl
                                have hcz39_3 : wc.cell? ⟨gb134, 3, none⟩ = some (.int .i64 t132) := (blk_cell BK134.out 3).trans rfl
                                have hfz39_0 := blk_frozen BK134.out 0
                                have hfz39_1 := blk_frozen BK134.out 1
                                have hfz39_2 := blk_frozen BK134.out 2
                                have hfz39_3 := blk_frozen BK134.out 3
                                obtain ⟨i040, hi040, _, hsz40, _⟩ := info_parts info5
                                obtain ⟨A40, hcut40, hA40, hC40⟩ := print_mid_of (P := Try.prog) (Value.int .u8) 0 22 5 .u64 .u64 Try.underlying22 hi040 hsz40 A0 c0 l0 t130 (IntKind.u64.wrap (t130 + t129)) (of_decide_eq_true (by first | (with_reducible assumption) | assumption)) (by first | omega | exact of_decide_eq_true (by first | (with_reducible assumption) | assumption)) (of_decide_eq_true (by first | (with_reducible assumption) | assumption)) HC0.out
                                have HR140 := Aside0.mk (Kd.C_of_reads (h1 := fun _ => rfl) (hA40 _ (Kd.reads_of_C HR0.out)))
                                have HC140 := Aside0.mk hC40
                                clear hA40 hC40 hi040 hsz40
                                go_wp2_with (first | ((with_reducible refine gate_builtin (b := .append) (xs := #[.tmp 71, .tmp 80]) rfl ?_); (try (refine gate_guard (by rfl) ?_; dsimp only)); at_builtin; refine Kd.R_append_rows (Kd.int .u8) (w0 := w) w.heap.size rfl (.tmp 71) (.tmp 80) 22 5 (.int .u8 0) 1 rfl Try.underlying22 info5 rfl (by decide) (by omega) (.slice Ao27 x8_1.length co27) x8_1 ((l0.take ((IntKind.u64.wrap (t130 + t129)) : Int).toNat).drop (t130 : Int).toNat) _ _ _ (fun k_ => (w.heap.size ≤ k_)) (fun _ => False) rfl rfl ?aO ?aR (fun _ _ h => h) (fun _ h => h.elim) ?aF ?aB ?aS ?aL ?_; (case aR => first | (rw [← show ((l0.take ((IntKind.u64.wrap (t130 + t129)) : Int).toNat).drop (t130 : Int).toNat).length = ((IntKind.u64.wrap (t130 + t129)).toNat - t130.toNat) from (by rw [List.length_drop, List.length_take]; have h_ : ((IntKind.u64.wrap (t130 + t129)) : Int) ≤ (l0.length : Int) := of_decide_eq_true (by first | (with_reducible assumption) | assumption); omega)]; repeat (first | exact (Kd.C_below HR140.out HB.out) | (with_reducible refine Kd.C_alloc ?_ _) | (with_reducible refine Kd.C_drewN ?_ _) | (with_reducible refine Kd.C_drew ?_))) | (repeat (first | exact (Kd.C_below HR140.out HB.out) | (with_reducible refine Kd.C_alloc ?_ _) | (with_reducible refine Kd.C_drewN ?_ _) | (with_reducible refine Kd.C_drew ?_)))); (case aB => exact (by repeat (first | (with_reducible first | exact HB.out | apply below_alloc | apply pw_below_drewN | apply below_drew1 | refine below_set ?_ GE134.out) | exact HB.out))); (case aF => exact (fun k_ hk => (Nat.le_trans (below_size (by repeat (first | (with_reducible first | exact HB.out | apply below_alloc | apply pw_below_drewN | apply below_drew1 | refine below_set ?_ GE134.out) | exact HB.out))) hk))); (case aO => exact (by (with_reducible repeat (first | apply Kd.R_alloc | apply Kd.R_drewN | apply Kd.R_drew)); exact HO_8.out)); (case aS => exact (below_size (by repeat (first | (with_reducible first | exact HB.out | apply below_alloc | apply pw_below_drewN | apply below_drew1 | refine below_set ?_ GE134.out) | exact HB.out)))); (case aL => have := LMc38.out; have hlx_ := (show ((l0.take ((IntKind.u64.wrap (t130 + t129)) : Int).toNat).drop (t130 : Int).toNat).length = ((IntKind.u64.wrap (t130 + t129)).toNat - t130.toNat) from (by rw [List.length_drop, List.length_take]; have h_ : ((IntKind.u64.wrap (t130 + t129)) : Int) ≤ (l0.length : Int) := of_decide_eq_true (by first | (with_reducible assumption) | assumption); omega)); omega); intro v142 w41 ho hb hg hat; rw [← Ny141.out] at ho; have n0_ := Aside0.mk (Kd.V_afterv (ok := (fun k_ => (P1_ k_ ∨ w.heap.size ≤ k_) ∧ k_ ≠ gb134)) (by (with_reducible repeat (first | apply Kd.V_alloc | apply Kd.V_drewN | apply Kd.V_drew)); exact Kd.V_mono HO_1.out (fun _ hk => ⟨⟨hk.1, hk.2.2⟩, hk.2.1⟩)) hg hat); have n1_ := Aside0.mk (blk_grown (g := gb134) (o := .cells #[.int .u64 t129, .int .u64 t130, .bool true, .int .i64 t132] 85 (0, 0)) (by (with_reducible repeat (first | refine blk_drewN ?_ _ | refine blk_drew ?_ | refine blk_alloc ?_ _)); exact BK134.out) hg (Kd.R_ne HO_8.out BK134.out (by decide))); have n2_ := Aside0.mk (hb); have n3_ := Aside0.mk (ho); clear HO_1; clear BK134; clear HB; clear HO_8; have HO_1 := n0_; have BK134 := n1_; have HB := n2_; have HO143 := n3_; clear n0_ n1_ n2_ n3_; clear ho hb hg hat))
                                go_roundg kj18
                                case measure => have := HK1.out; have := HJ18.out; omega
                                case rel => exact ⟨(y135), (y141), H', ⟨by have := HK1.out; have := HJ18.out; omega⟩, ⟨by (with_reducible repeat (first | apply Kd.V_alloc | apply Kd.V_drewN | apply Kd.V_drew)); exact Kd.V_mono HO_1.out (fun _ hk => ⟨hk.1.1, hk.2⟩)⟩, ⟨by (with_reducible repeat (first | apply Kd.R_alloc | apply Kd.R_drewN | apply Kd.R_drew)); exact HO143.out⟩, ⟨by repeat (first | (with_reducible first | exact HB.out | apply below_alloc | apply pw_below_drewN | apply below_drew1 | refine below_set ?_ GE134.out) | exact HB.out)⟩⟩
                              · rw [if_neg c38] at H
                                exact absurd H (by simp)
                            · rw [if_neg c37] at H
                              exact absurd H (by simp)
                          · rw [if_neg c36] at H
                            exact absurd H (by simp)
                        · rw [if_neg c35] at H
                          exact absurd H (by simp)
                      · replace c34 := Bool.eq_false_iff.mpr c34
                        subst c34
                        have H1 : (if t129 > (IntKind.u64.wrap ((y135.length : Int))) then (some (([] : List Int), 22)) else (if 0 ≤ t129 then (if t129 ≤ (y135.length : Int) then ((some (y135.take (t129 : Int).toNat : List Int)).bind fun y144 => (if x8_1.length + y144.length < 140737488355328 then (delta_Apply.l0 kj18 l0 (y135.drop (t129 : Int).toNat) a2 (x8_1 ++ y144)) else (none))) else (none)) else (none))) = some (r1, r2) := by rw [if_neg (show ¬ (false = true) by decide)] at H; exact H
                        clear H
                        have H := H1
                        clear H1
                        by_cases c42 : t129 > (IntKind.u64.wrap ((y135.length : Int)))
                        · rw [if_pos c42] at H
                          have c42b0 : decide ((IntKind.u64.wrap ((y135.length : Int))) < t129) = true := decide_eq_true c42
                          clear c42
                          simp only [Option.some.injEq, Prod.mk.injEq] at H
                          obtain ⟨rfl, rfl⟩ := H
                          have hcz43_0 : wc.cell? ⟨gb134, 0, none⟩ = some (.int .u64 t129) := (blk_cell BK134.out 0).trans rfl
                          have hcz43_1 : wc.cell? ⟨gb134, 1, none⟩ = some (.int .u64 t130) := (blk_cell BK134.out 1).trans rfl
                          have hcz43_2 : wc.cell? ⟨gb134, 2, none⟩ = some (.bool false) := (blk_cell BK134.out 2).trans rfl
                          have hcz43_3 : wc.cell? ⟨gb134, 3, none⟩ = some (.int .i64 t132) := (blk_cell BK134.out 3).trans rfl
                          have hfz43_0 := blk_frozen BK134.out 0
                          have hfz43_1 := blk_frozen BK134.out 1
                          have hfz43_2 := blk_frozen BK134.out 2
                          have hfz43_3 := blk_frozen BK134.out 3
                          go_wp2
                          go_ret2
                          exact ⟨_, by first | rfl | (simp [errW_none, errW_some] <;> rfl) | (simp only [← hji9]; first | rfl | (simp [errW_none, errW_some] <;> rfl)) | (simp [*, errW_none, errW_some] <;> rfl), by first | exact Kd.R_nil _ _ _ _ _ | exact Kd.N_nil _ _ _ _ _ | exact Kd.V_nil _ _ _ _ _ | exact Kd.Q_nil _ _ _ _ _ | exact Kd.S_nil _ _ _ _ _, by repeat (first | (with_reducible first | exact HB.out | apply below_alloc | apply pw_below_drewN | apply below_drew1 | refine below_set ?_ GE134.out) | exact HB.out)⟩
                        · rw [if_neg c42] at H
                          have c42b0 : decide ((IntKind.u64.wrap ((y135.length : Int))) < t129) = false := decide_eq_false c42
                          clear c42
                          by_cases c44 : 0 ≤ t129
                          · rw [if_pos c44] at H
                            have c44b0 := eq_true c44
                            have c44b1 : decide (0 ≤ t129) = true := decide_eq_true c44
                            clear c44
                            by_cases c45 : t129 ≤ (y135.length : Int)
                            · rw [if_pos c45] at H
                              have c45b0 := eq_true c45
                              have c45b1 : decide (t129 ≤ (y135.length : Int)) = true := decide_eq_true c45
                              clear c45
                              obtain ⟨y144, hy144⟩ : ∃ y_ : List Int, y_ = (y135.take (t129 : Int).toNat) := ⟨_, rfl⟩
                              replace H : (if x8_1.length + y144.length < 140737488355328 then (delta_Apply.l0 kj18 l0 (y135.drop (t129 : Int).toNat) a2 (x8_1 ++ y144)) else (none)) = some (r1, r2) := by first | (rw [hy144]; with_reducible exact H) | (have H2_ := (Option.bind_some _ _).symm.trans H; rw [hy144]; with_reducible exact H2_) | (have H2_ := (Option.bind_some _ _).symm.trans H; with_reducible exact H2_) | with_reducible exact H | (rw [hy144]; exact H) | exact H
                              have Ny144 := Aside0.mk hy144
                              clear hy144
                              by_cases c46 : x8_1.length + y144.length < 140737488355328
                              · rw [if_pos c46] at H
                                have LMc46 := Aside0.mk c46
                                clear c46
                                obtain ⟨y149, hy149⟩ : ∃ y_ : List Int, y_ = (x8_1 ++ y144) := ⟨_, rfl⟩
                                replace H : (delta_Apply.l0 kj18 l0 (y135.drop (t129 : Int).toNat) a2 y149) = some (r1, r2) := by first | (rw [hy149]; with_reducible exact H) | (have H2_ := (Option.bind_some _ _).symm.trans H; rw [hy149]; with_reducible exact H2_) | (have H2_ := (Option.bind_some _ _).symm.trans H; with_reducible exact H2_) | with_reducible exact H | (rw [hy149]; exact H) | exact H
                                have Ny149 := Aside0.mk hy149
                                clear hy149
                                have c47b0 := eq_true (of_decide_eq_true (by first | (with_reducible assumption) | assumption) : 0 ≤ t129)
                                have c48b0 := eq_true (of_decide_eq_true (by first | (with_reducible assumption) | assumption) : t129 ≤ (y135.length : Int))
                                obtain ⟨y152, hy152⟩ : ∃ y_ : List Int, y_ = (y135.drop (t129 : Int).toNat) := ⟨_, rfl⟩
                                replace H : (delta_Apply.l0 kj18 l0 y152 a2 y149) = some (r1, r2) := by first | (rw [hy152]; with_reducible exact H) | (have H2_ := (Option.bind_some _ _).symm.trans H; rw [hy152]; with_reducible exact H2_) | (have H2_ := (Option.bind_some _ _).symm.trans H; with_reducible exact H2_) | with_reducible exact H | (rw [hy152]; exact H) | exact H
                                have Ny152 := Aside0.mk hy152
                                clear hy152
                                have H' := Aside0.mk H
                                clear H
                                have hcz49_0 : wc.cell? ⟨gb134, 0, none⟩ = some (.int .u64 t129) := (blk_cell BK134.out 0).trans rfl
                                have hcz49_1 : wc.cell? ⟨gb134, 1, none⟩ = some (.int .u64 t130) := (blk_cell BK134.out 1).trans rfl
                                have hcz49_2 : wc.cell? ⟨gb134, 2, none⟩ = some (.bool false) := (blk_cell BK134.out 2).trans rfl
                                have hcz49_3 : wc.cell? ⟨gb134, 3, none⟩ = some (.int .i64 t132) := (blk_cell BK134.out 3).trans rfl
                                have hfz49_0 := blk_frozen BK134.out 0
                                have hfz49_1 := blk_frozen BK134.out 1
                                have hfz49_2 := blk_frozen BK134.out 2
                                have hfz49_3 := blk_frozen BK134.out 3
                                try go_wp2
                                have n0_ := Aside0.mk (Kd.V_drew HO_1.out)
                                have n1_ := Aside0.mk (Kd.R_drew HO_8.out)
                                have n2_ := Aside0.mk (blk_drew BK134.out)
                                have n3_ := Aside0.mk (below_drew1 HB.out)
                                clear HO_1
                                clear HO_8
                                clear BK134
                                clear HB
                                have HO_1 := n0_
                                have HO_8 := n1_
                                have BK134 := n2_
                                have HB := n3_
                                clear n0_ n1_ n2_ n3_
                                have q51 : (t129 : Int) ≤ ((y135.length : Int) : Int) := of_decide_eq_true (by first | (with_reducible assumption) | assumption)
                                obtain ⟨i051, hi051, _, hsz51, _⟩ := info_parts info5
                                have hroom51 : y135.length ≤ c26 := (Kd.V_reads' HO_1.out).2.1
                                have hC51 : Kd.F (Kd.int .u8) _ _ A26 y135.length y135 := (Kd.V_at (base := w.heap.size) HO_1.out).2.2
                                have hcut51 := cut_to (P := Try.prog) 22 5 .u64 Try.underlying22 hi051 A26 y135.length c26 t129 (of_decide_eq_true (by first | (with_reducible assumption) | assumption)) q51 hroom51
                                have hr51 := Kd.F_take (m := (t129 : Int).toNat) hC51 (by omega)
                                have hy51 : y144.length = (t129 : Int).toNat := (by rw [Ny144.out, List.length_take]; omega)
                                rw [← Ny144.out] at hr51
                                rw [← hy51] at hcut51
                                have HO148 := Aside0.mk (show Kd.V (Kd.int .u8) 5 _ w.heap.size _ (.slice A26 y144.length c26) y144 from Kd.V_mk (by omega) hr51)
                                have HC148 := Aside0.mk (show y144.length ≤ c26 from by omega)
                                clear hr51 hC51 hroom51 hi051 hsz51
                                have KY51 := Aside0.mk hy51
                                clear hy51
                                replace q51 := eq_true q51
                                have q52 : (t129 : Int) ≤ ((y135.length : Int) : Int) := of_decide_eq_true (by first | (with_reducible assumption) | assumption)
                                obtain ⟨i052, hi052, _, hsz52, _⟩ := info_parts info5
                                have hroom52 : y135.length ≤ c26 := (Kd.V_reads' HO_1.out).2.1
                                have hC52 : Kd.F (Kd.int .u8) _ _ A26 y135.length y135 := (Kd.V_at (base := w.heap.size) HO_1.out).2.2
                                have q052 : (0 : Int) ≤ (t129 : Int) := of_decide_eq_true (by first | (with_reducible assumption) | assumption)
                                have hcut52 := cut_from (P := Try.prog) 22 5 .u64 Try.underlying22 hi052 1 hsz52 A26 y135.length c26 t129 q052 q52
                                have hr52 := Kd.F_cut (m := (t129 : Int).toNat) (c := c26) hC52 (by omega) hroom52
                                obtain ⟨A52, hA52⟩ : ∃ A1, A1 = (if c26 = (t129 : Int).toNat then A26 else (A26 : Option Addr).map (·.add ((t129 : Int).toNat * 1))) := ⟨_, rfl⟩
                                obtain ⟨c52, hc52⟩ : ∃ c1, c1 = c26 - (t129 : Int).toNat := ⟨_, rfl⟩
                                have hy52 : y152.length = y135.length - (t129 : Int).toNat := (by rw [Ny152.out, List.length_drop] <;> omega)
                                rw [show (y135).drop (t129 : Int).toNat = y152 from Ny152.out.symm] at hr52
                                replace hr52 : Kd.F (Kd.int .u8) _ _ A52 y152.length y152 := (by rw [hA52]; exact hr52)
                                rw [← hy52, ← hA52, ← hc52] at hcut52
                                have HO156 := Aside0.mk (show Kd.V (Kd.int .u8) 5 _ w.heap.size _ (.slice A52 y152.length c52) y152 from Kd.V_mk (by rw [hy52, hc52]; exact Nat.sub_le_sub_right hroom52 _) hr52)
                                have HC156 := Aside0.mk (show y152.length ≤ c52 from by rw [hy52, hc52]; exact Nat.sub_le_sub_right hroom52 _)
                                clear hr52 hC52 hroom52 hi052 hsz52 hc52
                                have KY52 := Aside0.mk hy52
                                have KA52 := Aside0.mk hA52
                                clear hy52 hA52
                                replace q52 := eq_true q52
                                refine start_ (n := 12) (S := fun w' => w'.cell? ⟨gb134, 0, none⟩ = some (.int .u64 t129) ∧ w'.cell? ⟨gb134, 1, none⟩ = some (.int .u64 t130) ∧ w'.cell? ⟨gb134, 2, none⟩ = some (.bool false) ∧ w'.cell? ⟨gb134, 3, none⟩ = some (.int .i64 t132)) (ds := []) #[false, false, false, false, false, false, false, false, false, false, false, false] (by kernel_rfl) rfl rfl ⟨(blk_cell BK134.out 0).trans rfl, (blk_cell BK134.out 1).trans rfl, (blk_cell BK134.out 2).trans rfl, (blk_cell BK134.out 3).trans rfl⟩ (fun hHeld => ?_); refine with_tabW delta_Apply.tab7 delta_Apply.bits7 (fun HT_ HW_ => ?_)
                                generalize wc.drew = w50 at HO_1 HO_8 BK134 HB HO148 HO156 hHeld ⊢
                                refine pure_ (i := 0) (N := some 26) (v := ?_) (a' := ?_) #[true, false, false, false, false, false, false, false, false, false, false, false] rfl rfl (any_of HT_.out (by kernel_rfl)) (fun _ _ _ h => h) (Or.inl ⟨by rfl, ?_⟩) ?_ ?_
                                rotate_left
                                · intro w'
                                  go_simp
                                  with_reducible rfl
                                rotate_left
                                · simp only [Act.put, List.setIfInBounds_toArray, List.set_cons_zero, List.set_cons_succ, i64_w, i32_w]
                                  rfl
                                refine pure_ (i := 1) (N := some 27) (v := ?_) (a' := ?_) #[true, true, false, false, false, false, false, false, false, false, false, false] rfl rfl (any_of HT_.out (by kernel_rfl)) (fun _ _ _ h => h) (Or.inl ⟨by rfl, ?_⟩) ?_ ?_
                                rotate_left
                                · intro w'
                                  go_simp
                                  with_reducible rfl
                                rotate_left
                                · simp only [Act.put, List.setIfInBounds_toArray, List.set_cons_zero, List.set_cons_succ, i64_w, i32_w]
                                  rfl
                                refine pure_ (i := 2) (N := some 28) (v := ?_) (a' := ?_) #[true, true, true, false, false, false, false, false, false, false, false, false] rfl rfl (any_of HT_.out (by kernel_rfl)) (fun _ _ _ h => h) (Or.inl ⟨by rfl, ?_⟩) ?_ ?_
                                rotate_left
                                · intro w'
                                  go_simp
                                  with_reducible rfl
                                rotate_left
                                · simp only [Act.put, List.setIfInBounds_toArray, List.set_cons_zero, List.set_cons_succ, i64_w, i32_w]
                                  rfl
                                refine pure_ (i := 6) (N := some 32) (v := ?_) (a' := ?_) #[true, true, true, false, false, false, true, false, false, false, false, false] rfl rfl (any_of HT_.out (by kernel_rfl)) (fun _ _ _ h => h) (Or.inl ⟨by rfl, ?_⟩) ?_ ?_
                                rotate_left
                                · intro w'
                                  go_simp
                                  with_reducible rfl
                                rotate_left
                                · simp only [Act.put, List.setIfInBounds_toArray, List.set_cons_zero, List.set_cons_succ, i64_w, i32_w]
                                  rfl
                                refine pure_ (i := 7) (N := some 33) (v := ?_) (a' := ?_) #[true, true, true, false, false, false, true, true, false, false, false, false] rfl rfl (any_of HT_.out (by kernel_rfl)) (fun _ _ _ h => h) (Or.inl ⟨by rfl, ?_⟩) ?_ ?_
                                rotate_left
                                · intro w'
                                  go_simp
                                  with_reducible rfl
                                rotate_left
                                · simp only [Act.put, List.setIfInBounds_toArray, List.set_cons_zero, List.set_cons_succ, i64_w, i32_w]
                                  rfl
                                refine take_ (i := 3) (N := some 29) (v := ?_) (a' := ?_) #[true, true, true, true, false, false, true, true, false, false, false, false] rfl rfl (take_ofW HT_.out HW_.out (by kernel_rfl)) (fun _ _ _ h => h) (Or.inl ⟨by rfl, ?_⟩) hHeld ?_ ?_
                                rotate_left
                                · rintro w' ⟨s0, s1, s2, s3⟩
                                  go_simp
                                  with_reducible rfl
                                rotate_left
                                · simp only [Act.put, List.setIfInBounds_toArray, List.set_cons_zero, List.set_cons_succ, i64_w, i32_w]
                                  rfl
                                refine pure_ (i := 4) (N := some 30) (v := ?_) (a' := ?_) #[true, true, true, true, true, false, true, true, false, false, false, false] rfl rfl (any_of HT_.out (by kernel_rfl)) (fun _ _ _ h => h) (Or.inl ⟨by rfl, ?_⟩) ?_ ?_
                                rotate_left
                                · intro w'
                                  go_simp
                                  with_reducible rfl
                                rotate_left
                                · simp only [Act.put, List.setIfInBounds_toArray, List.set_cons_zero, List.set_cons_succ, i64_w, i32_w]
                                  rfl
                                refine take_ (i := 8) (N := some 34) (v := ?_) (a' := ?_) #[true, true, true, true, true, false, true, true, true, false, false, false] rfl rfl (take_ofW HT_.out HW_.out (by kernel_rfl)) (fun _ _ _ h => h) (Or.inl ⟨by rfl, ?_⟩) hHeld ?_ ?_
                                rotate_left
                                · rintro w' ⟨s0, s1, s2, s3⟩
                                  go_simp
                                  with_reducible rfl
                                rotate_left
                                · simp only [Act.put, List.setIfInBounds_toArray, List.set_cons_zero, List.set_cons_succ, i64_w, i32_w]
                                  rfl
                                refine pure_ (i := 9) (N := some 35) (v := ?_) (a' := ?_) #[true, true, true, true, true, false, true, true, true, true, false, false] rfl rfl (any_of HT_.out (by kernel_rfl)) (fun _ _ _ h => h) (Or.inl ⟨by rfl, ?_⟩) ?_ ?_
                                rotate_left
                                · intro w'
                                  go_simp
                                  with_reducible rfl
                                rotate_left
                                · simp only [Act.put, List.setIfInBounds_toArray, List.set_cons_zero, List.set_cons_succ, i64_w, i32_w]
                                  rfl
                                refine one_ (i := 5) (N := some 31) #[true, true, true, true, true, true, true, true, true, true, false, false] rfl rfl (one_of HT_.out (by kernel_rfl)) (by decide) (fun K hK => ?_)
                                refine Kd.R_append_rows_step (Kd.int .u8) (w0 := w) w.heap.size (by rfl) (.tmp 26) (.tmp 30) 22 5 (.int .u8 0) 1 rfl Try.underlying22 info5 rfl (by decide) (by omega) (.slice Ao27 x8_1.length co27) x8_1 y144 _ _ _ (fun k_ => (w.heap.size ≤ k_)) (fun _ => False) rfl rfl ?aO ?aR (fun _ _ h => h) (fun _ h => h.elim) ?aF ?aB ?aS ?aL ?_
                                (case aR => repeat (first | exact (Kd.V_reads' HO148.out).2.2 | (with_reducible refine Kd.C_alloc ?_ _) | (with_reducible refine Kd.C_drewN ?_ _) | (with_reducible refine Kd.C_drew ?_)))
                                (case aB => exact (by repeat (first | (with_reducible first | exact HB.out | apply below_alloc | apply pw_below_drewN | apply below_drew1 | refine below_set ?_ GE134.out) | exact HB.out)))
                                (case aF => exact (fun k_ hk => (Nat.le_trans (below_size (by repeat (first | (with_reducible first | exact HB.out | apply below_alloc | apply pw_below_drewN | apply below_drew1 | refine below_set ?_ GE134.out) | exact HB.out))) hk)))
                                (case aO => exact (by (with_reducible repeat (first | apply Kd.R_alloc | apply Kd.R_drewN | apply Kd.R_drew)); exact HO_8.out))
                                (case aS => exact (below_size (by repeat (first | (with_reducible first | exact HB.out | apply below_alloc | apply pw_below_drewN | apply below_drew1 | refine below_set ?_ GE134.out) | exact HB.out))))
                                (case aL => have := LMc46.out; omega)
                                intro v150 w53 ho hb hg hat
                                rw [← Ny149.out] at ho
                                have n0_ := Aside0.mk (Kd.V_afterv (ok := (fun k_ => (P1_ k_ ∨ w.heap.size ≤ k_) ∧ k_ ≠ gb134)) (by (with_reducible repeat (first | apply Kd.V_alloc | apply Kd.V_drewN | apply Kd.V_drew)); exact Kd.V_mono HO_1.out (fun _ hk => ⟨⟨hk.1, hk.2.2⟩, hk.2.1⟩)) hg hat)
                                have n1_ := Aside0.mk (blk_grown (g := gb134) (o := .cells #[.int .u64 t129, .int .u64 t130, .bool false, .int .i64 t132] 85 (0, 0)) (by (with_reducible repeat (first | refine blk_drewN ?_ _ | refine blk_drew ?_ | refine blk_alloc ?_ _)); exact BK134.out) hg (Kd.R_ne HO_8.out BK134.out (by decide)))
                                have n2_ := Aside0.mk (Kd.V_afterv (ok := (fun k_ => (P1_ k_ ∨ w.heap.size ≤ k_) ∧ k_ ≠ gb134)) (by (with_reducible repeat (first | apply Kd.V_alloc | apply Kd.V_drewN | apply Kd.V_drew)); exact Kd.V_mono HO148.out (fun _ hk => ⟨⟨hk.1, hk.2.2⟩, hk.2.1⟩)) hg hat)
                                have n3_ := Aside0.mk (Kd.V_afterv (ok := (fun k_ => (P1_ k_ ∨ w.heap.size ≤ k_) ∧ k_ ≠ gb134)) (by (with_reducible repeat (first | apply Kd.V_alloc | apply Kd.V_drewN | apply Kd.V_drew)); exact Kd.V_mono HO156.out (fun _ hk => ⟨⟨hk.1, hk.2.2⟩, hk.2.1⟩)) hg hat)
                                have n4_ := Aside0.mk (hb)
                                have n5_ := Aside0.mk (ho)
                                clear HO_1
                                clear BK134
                                clear HO148
                                clear HO156
                                clear HB
                                clear HO_8
                                have HO_1 := n0_
                                have BK134 := n1_
                                have HO148 := n2_
                                have HO156 := n3_
                                have HB := n4_
                                have HO151 := n5_
                                clear n0_ n1_ n2_ n3_ n4_ n5_
                                clear ho hb hg hat
                                refine hK.out _ _ ⟨(blk_cell BK134.out 0).trans rfl, (blk_cell BK134.out 1).trans rfl, (blk_cell BK134.out 2).trans rfl, (blk_cell BK134.out 3).trans rfl⟩ (fun hHeld => ?_)
                                clear hK K
                                refine norm_ (a' := ?_) ?_ ?_
                                rotate_left
                                · show Act.put _ (some 31) _ = _
                                  simp only [Act.put, List.setIfInBounds_toArray, List.set_cons_zero, List.set_cons_succ, i64_w, i32_w]
                                  rfl
                                refine pure_ (i := 10) (N := some 8) (v := ?_) (a' := ?_) #[true, true, true, true, true, true, true, true, true, true, true, false] rfl rfl (any_of HT_.out (by kernel_rfl)) (fun _ _ _ h => h) (Or.inl ⟨by rfl, ?_⟩) ?_ ?_
                                rotate_left
                                · intro w'
                                  go_simp
                                  with_reducible rfl
                                rotate_left
                                · simp only [Act.put, List.setIfInBounds_toArray, List.set_cons_zero, List.set_cons_succ, i64_w, i32_w]
                                  rfl
                                refine pure_ (i := 11) (N := some 1) (v := ?_) (a' := ?_) #[true, true, true, true, true, true, true, true, true, true, true, true] rfl rfl (any_of HT_.out (by kernel_rfl)) (fun _ _ _ h => h) (Or.inl ⟨by rfl, ?_⟩) ?_ ?_
                                rotate_left
                                · intro w'
                                  go_simp
                                  with_reducible rfl
                                rotate_left
                                · simp only [Act.put, List.setIfInBounds_toArray, List.set_cons_zero, List.set_cons_succ, i64_w, i32_w]
                                  rfl
                                refine done_ (done_of HT_.out (by kernel_rfl)) ?_
                                try go_wp2
                                go_roundg kj18
                                case measure => have := HK1.out; have := HJ18.out; omega
                                case rel => exact ⟨(y152), (y149), H', ⟨by have := HK1.out; have := HJ18.out; omega⟩, ⟨by (with_reducible repeat (first | apply Kd.V_alloc | apply Kd.V_drewN | apply Kd.V_drew)); exact Kd.V_mono HO156.out (fun _ hk => ⟨hk.1.1, hk.2⟩)⟩, ⟨by (with_reducible repeat (first | apply Kd.R_alloc | apply Kd.R_drewN | apply Kd.R_drew)); exact HO151.out⟩, ⟨by repeat (first | (with_reducible first | exact HB.out | apply below_alloc | apply pw_below_drewN | apply below_drew1 | refine below_set ?_ GE134.out) | exact HB.out)⟩⟩
                              · rw [if_neg c46] at H
                                exact absurd H (by simp)
                            · rw [if_neg c45] at H
                              exact absurd H (by simp)
                          · rw [if_neg c44] at H
                            exact absurd H (by simp)
            · rw [if_neg c8] at H
              exact absurd H (by simp)
          · rw [if_neg c7] at H
            exact absurd H (by simp)
        · rw [if_neg c6] at H
          have c6b0 : (t133 == 0) = false := beq_eq_false_iff_ne.mpr c6
          have c6b1 : (t133 != 0) = true := bne_iff_ne.mpr c6
          simp only [Option.some.injEq, Prod.mk.injEq] at H
          obtain ⟨rfl, rfl⟩ := H
          obtain ⟨Ao54, co54, eo54⟩ := Kd.V_slice HO_1.out
          subst eo54
          go_wp2_with (first | ((with_reducible refine gate_callee (f := 50) rfl ?_); refine goesL_ (some 16) rfl rfl Try.func50 (by kernel_rfl) rfl #[.slice Ao54 x1_1.length co54] rfl (by (try simp only [List.map_toArray, List.map_cons, List.map_nil]); first | done | rfl | (simp only [List.length_drop, List.length_take]; rfl)) ?_; (with_reducible refine (delta_read.calls k1 _ _ x1_1 t129 t130 t131 t132 t133 _ ?side1 ?side2 A5.out).mono ?_); (case side1 => repeat (first | exact (Kd.V_reads' HO_1.out).2.2 | (with_reducible refine Kd.C_alloc ?_ _) | (with_reducible refine Kd.C_drewN ?_ _) | (with_reducible refine Kd.C_drew ?_))); (case side2 => exact (Kd.V_reads' HO_1.out).2.1); rintro e w55 ⟨rfl, hb⟩; refine ⟨_, rfl, ?_⟩; have n0_ := Aside0.mk (Kd.V_below (by (with_reducible repeat (first | apply Kd.V_alloc | apply Kd.V_drewN | apply Kd.V_drew)); exact HO_1.out) hb); have n1_ := Aside0.mk (Kd.R_below (by (with_reducible repeat (first | apply Kd.R_alloc | apply Kd.R_drewN | apply Kd.R_drew)); exact HO_8.out) hb); have n2_ := Aside0.mk (below_step (by repeat (first | (with_reducible first | exact HB.out | apply below_alloc | apply pw_below_drewN | apply below_drew1) | exact HB.out)) hb); clear HO_1; clear HO_8; clear HB; have HO_1 := n0_; have HO_8 := n1_; have HB := n2_; clear n0_ n1_ n2_; (try clear hb); (try clear hb2); (try clear hk); (try clear hi)) | ((with_reducible refine gate_dst (N := 9) rfl ?_); (try (refine gate_guard (by rfl) ?_; dsimp only)); refine box_event ?hg (N := 9) ?hd (cs := #[.int .u64 0, .int .u64 0, .bool false, .int .i64 0]) (t := 85) ?hr ?_; (case hd => rfl); (case hg => rfl); (case hr => first | (go_simp; done) | (go_simp; rfl)); intro gb134 hg w56 hbox hb; have n0_ := Aside0.mk (Kd.V_below (Kd.V_elderB (by (with_reducible repeat (first | apply Kd.V_alloc | apply Kd.V_drewN | apply Kd.V_drew)); exact HO_1.out) gb134 (Nat.le_of_eq hg.symm)) hb); have n1_ := Aside0.mk (Kd.R_below (by (with_reducible repeat (first | apply Kd.R_alloc | apply Kd.R_drewN | apply Kd.R_drew)); exact HO_8.out) hb); have n2_ := Aside0.mk (below_step (by repeat (first | (with_reducible first | exact HB.out | apply below_alloc | apply pw_below_drewN | apply below_drew1) | exact HB.out)) hb); have n3_ := Aside0.mk (hbox); have n4_ := Aside0.mk ((by rw [hg]; exact (below_size (by repeat (first | (with_reducible first | exact HB.out | apply below_alloc | apply pw_below_drewN | apply below_drew1) | exact HB.out))) : w.heap.size ≤ gb134)); have n5_ := Aside0.mk ((by rw [hg]; exact (below_size (by repeat (first | (with_reducible first | exact HB.out | apply below_alloc | apply pw_below_drewN | apply below_drew1) | exact HB.out))) : w.heap.size ≤ gb134)); clear HO_1; clear HO_8; clear HB; have HO_1 := n0_; have HO_8 := n1_; have HB := n2_; have BK134 := n3_; have GW134 := n4_; have GE134 := n5_; clear n0_ n1_ n2_ n3_ n4_ n5_; clear hb hbox hg; have hcz57_0 : w56.cell? ⟨gb134, 0, none⟩ = some (.int .u64 0) := (blk_cell BK134.out 0).trans rfl; have hcz57_1 : w56.cell? ⟨gb134, 1, none⟩ = some (.int .u64 0) := (blk_cell BK134.out 1).trans rfl; have hcz57_2 : w56.cell? ⟨gb134, 2, none⟩ = some (.bool false) := (blk_cell BK134.out 2).trans rfl; have hcz57_3 : w56.cell? ⟨gb134, 3, none⟩ = some (.int .i64 0) := (blk_cell BK134.out 3).trans rfl; have hfz57_0 := blk_frozen BK134.out 0; have hfz57_1 := blk_frozen BK134.out 1; have hfz57_2 := blk_frozen BK134.out 2; have hfz57_3 := blk_frozen BK134.out 3))
          go_ret2
          exact ⟨_, by first | rfl | (simp [errW_none, errW_some] <;> rfl) | (simp [*, errW_none, errW_some] <;> rfl), by first | exact Kd.R_nil _ _ _ _ _ | exact Kd.N_nil _ _ _ _ _ | exact Kd.V_nil _ _ _ _ _ | exact Kd.Q_nil _ _ _ _ _ | exact Kd.S_nil _ _ _ _ _, by repeat (first | (with_reducible first | exact HB.out | apply below_alloc | apply pw_below_drewN | apply below_drew1 | refine below_set ?_ GE134.out) | exact HB.out)⟩
      · rw [if_neg c4] at H
        have c4b0 : decide (0 < (x1_1.length : Int)) = false := decide_eq_false c4
        have c4b1 : decide (0 < x1_1.length) = false := decide_eq_false (by omega)
        clear c4
        simp only [Option.some.injEq, Prod.mk.injEq] at H
        obtain ⟨rfl, rfl⟩ := H
        obtain ⟨Ao58, co58, eo58⟩ := Kd.V_slice HO_1.out
        subst eo58
        go_wp2
        go_ret2
        exact ⟨_, by first | rfl | (simp [errW_none, errW_some] <;> rfl) | (simp [*, errW_none, errW_some] <;> rfl), by (with_reducible repeat (first | apply Kd.R_alloc | apply Kd.R_drewN | apply Kd.R_drew)); exact HO_8.out, by repeat (first | (with_reducible first | exact HB.out | apply below_alloc | apply pw_below_drewN | apply below_drew1) | exact HB.out)⟩

/-! ### repriselaw5_known: function 26 -/
def repriselaw5_known.f : Option Bool := some true
theorem repriselaw5_known.make1 : delta_Make.f [104, 101, 108, 108, 111] [104, 101, 108, 108, 111] = some [11, 0] := by
  have hb : DeltaM.best [104, 101, 108, 108, 111] [104, 101, 108, 108, 111] = (5, 0) := by decide +kernel
  have h2 : DeltaM.make [104, 101, 108, 108, 111] [104, 101, 108, 108, 111] = [11, 0] := by
    simp [DeltaM.make, DeltaM.mk, hb, DeltaM.lit, Leb.enc_small]
  unfold delta_Make.f
  rw [if_pos (by simp), h2]
theorem repriselaw5_known.make0 : delta_Make.f [] [] = some [] := by
  unfold delta_Make.f
  rw [if_pos (by simp)]
  simp [DeltaM.make, DeltaM.mk, DeltaM.lit]
theorem repriselaw5_known.apply5 : delta_Apply.f 30 [104, 101, 108, 108, 111] [11, 0] 5 = some ([104, 101, 108, 108, 111], 0) := by kernel_rfl
theorem repriselaw5_known.apply4 : delta_Apply.f 30 [104, 101, 108, 108, 111] [11, 0] 4 = some ([], 25) := by kernel_rfl
theorem repriselaw5_known.lit5 (w : World) : Kd.C (Kd.int .u8) (w.alloc (.cells #[.int .u8 104, .int .u8 101, .int .u8 108, .int .u8 108, .int .u8 111] 5 (5, 6))) (some ⟨w.heap.size, 0, none⟩) 5 [104, 101, 108, 108, 111] := by
  have h : ReadsOf (Value.int .u8) (0 : Int) (w.alloc (.cells #[.int .u8 104, .int .u8 101, .int .u8 108, .int .u8 108, .int .u8 111] 5 (5, 6))) (some ⟨w.heap.size, 0, none⟩) 5 [104, 101, 108, 108, 111] := by
    refine ⟨rfl, by decide, fun _ => ⟨_, rfl, fun j hj => ?_⟩⟩
    rw [show (⟨w.heap.size, 0, none⟩ : Addr).add j = ⟨w.heap.size, j, none⟩ from by unfold Addr.add; split <;> simp_all]
    rw [cell_of_row _ w.heap.size j _ 5 (5, 6) (heap_alloc_last w _)]
    match j, hj with
    | 0, _ => rfl
    | 1, _ => rfl
    | 2, _ => rfl
    | 3, _ => rfl
    | 4, _ => rfl
    | (j + 5), h => exact absurd h (by omega)
  exact Kd.C_of_reads (h1 := fun _ => rfl) h
theorem repriselaw5_known.V_C {A : Option Addr} {c : Nat} {xs : List Int} {w : World} {base : Nat} (hc : xs.length ≤ c) (h : Kd.C (Kd.int .u8) w A xs.length xs) : Kd.V (Kd.int .u8) 5 w base (fun _ => True) (.slice A xs.length c) xs :=
  Kd.V_mk hc (fun W' hW => (Kd.heap_int _).C (fun k hk => hW k trivial hk) h)
set_option maxHeartbeats 4000000 in
set_option maxRecDepth 1000000 in
theorem repriselaw5_known.calls (r : Bool) (w : World) (h : repriselaw5_known.f = some r) :
    Calls Try.prog 26 #[] w fun e w' => e = .returned (.bool r) ∧ Below w.heap.size w w' := by
  obtain rfl := Option.some.inj h
  have kc := fun (w : World) (C : Array Value) (n c : Nat) => Lib.run_convert_bytes_const (P := Try.prog) w 22 5 C n c Try.underlying22 Try.underlying5
  go_enter Try.func26, Try.ntmps26
  have kc2 : ∀ w : World, (convert 22 22 (.slice (some ⟨w.heap.size + 1, 0, none⟩) 5 5)).run Try.prog ((w.alloc (.cells #[.int .u8 104, .int .u8 101, .int .u8 108, .int .u8 108, .int .u8 111] 5 (5, 6))).alloc (.cells #[.int .u8 104, .int .u8 101, .int .u8 108, .int .u8 108, .int .u8 111] 5)) = .ok (.slice (some ⟨w.heap.size + 1, 0, none⟩) 5 5) ((w.alloc (.cells #[.int .u8 104, .int .u8 101, .int .u8 108, .int .u8 108, .int .u8 111] 5 (5, 6))).alloc (.cells #[.int .u8 104, .int .u8 101, .int .u8 108, .int .u8 108, .int .u8 111] 5 (5, 6))) := fun w => by
    have := Lib.run_convert_bytes_const (P := Try.prog) (w.alloc (.cells #[.int .u8 104, .int .u8 101, .int .u8 108, .int .u8 108, .int .u8 111] 5 (5, 6))) 22 5 #[.int .u8 104, .int .u8 101, .int .u8 108, .int .u8 108, .int .u8 111] 5 5 Try.underlying22 Try.underlying5
    simpa using this
  go_wp2_with fail
  have hb1 : Below w.heap.size w ((w.alloc (.cells #[.int .u8 104, .int .u8 101, .int .u8 108, .int .u8 108, .int .u8 111] 5 (5, 6))).alloc (.cells #[.int .u8 104, .int .u8 101, .int .u8 108, .int .u8 108, .int .u8 111] 5 (5, 6))) := ((Below.refl _ _).alloc (Nat.le_refl _) _).alloc (by simp) _
  have hA : Kd.C (Kd.int .u8) ((w.alloc (.cells #[.int .u8 104, .int .u8 101, .int .u8 108, .int .u8 108, .int .u8 111] 5 (5, 6))).alloc (.cells #[.int .u8 104, .int .u8 101, .int .u8 108, .int .u8 108, .int .u8 111] 5 (5, 6))) (some ⟨w.heap.size, 0, none⟩) 5 [104, 101, 108, 108, 111] := Kd.C_alloc (repriselaw5_known.lit5 w) _
  have hB : Kd.C (Kd.int .u8) ((w.alloc (.cells #[.int .u8 104, .int .u8 101, .int .u8 108, .int .u8 108, .int .u8 111] 5 (5, 6))).alloc (.cells #[.int .u8 104, .int .u8 101, .int .u8 108, .int .u8 108, .int .u8 111] 5 (5, 6))) (some ⟨w.heap.size + 1, 0, none⟩) 5 [104, 101, 108, 108, 111] := by simpa using repriselaw5_known.lit5 (w.alloc (.cells #[.int .u8 104, .int .u8 101, .int .u8 108, .int .u8 108, .int .u8 111] 5 (5, 6)))
  refine (delta_Make.calls _ 5 [104, 101, 108, 108, 111] _ 5 [104, 101, 108, 108, 111] [11, 0] _ hA (by decide) hB (by decide) repriselaw5_known.make1).mono ?_
  rintro e w1 ⟨v1, rfl, ho1, hb2⟩
  have HB1 := Aside0.mk (below_step hb1 hb2)
  obtain ⟨A1, c1, rfl⟩ := Kd.R_slice ho1
  have HC1 := Aside0.mk (Kd.R_reads' ho1).2
  clear hb1 hA hB ho1 hb2 kc2
  go_wp2_with fail
  have hb3 : Below w1.heap.size w1 (w1.alloc (.cells #[.int .u8 104, .int .u8 101, .int .u8 108, .int .u8 108, .int .u8 111] 5 (5, 6))) := (Below.refl _ _).alloc (Nat.le_refl _) _
  have hA := repriselaw5_known.lit5 w1
  have hD := Kd.C_below HC1.out.2 hb3
  have HB2 := Aside0.mk (below_step HB1.out hb3)
  have HC2 := Aside0.mk hD
  generalize w1.alloc (.cells #[.int .u8 104, .int .u8 101, .int .u8 108, .int .u8 108, .int .u8 111] 5 (5, 6)) = w2 at *
  refine (delta_Apply.calls 30 _ 5 [104, 101, 108, 108, 111] (fun _ => True) _ c1 [11, 0] 5 [104, 101, 108, 108, 111] 0 _ hA (by decide) (repriselaw5_known.V_C HC1.out.1 hD) repriselaw5_known.apply5).mono ?_
  rintro e w3 ⟨v3, rfl, ho3, hb4⟩
  have HB3 := Aside0.mk (below_step HB2.out hb4)
  have HC3 := Aside0.mk (Kd.C_below HC2.out hb4)
  obtain ⟨A3, c3, rfl⟩ := Kd.R_slice ho3
  have HC3' := Aside0.mk (Kd.R_reads' ho3).2.2
  clear hA hD ho3 hb4 hb3
  go_wp2_with fail
  have hb3 : Below w3.heap.size w3 (w3.alloc (.cells #[.int .u8 104, .int .u8 101, .int .u8 108, .int .u8 108, .int .u8 111] 5 (5, 6))) := (Below.refl _ _).alloc (Nat.le_refl _) _
  have hA := repriselaw5_known.lit5 w3
  have hD := Kd.C_below HC3.out hb3
  have HB4 := Aside0.mk (below_step HB3.out hb3)
  have HC4 := Aside0.mk hD
  have HC4' := Aside0.mk (Kd.C_below HC3'.out hb3)
  generalize w3.alloc (.cells #[.int .u8 104, .int .u8 101, .int .u8 108, .int .u8 108, .int .u8 111] 5 (5, 6)) = w4 at *
  refine (delta_Apply.calls 30 _ 5 [104, 101, 108, 108, 111] (fun _ => True) _ c1 [11, 0] 4 [] 25 _ hA (by decide) (repriselaw5_known.V_C HC1.out.1 hD) repriselaw5_known.apply4).mono ?_
  rintro e w5 ⟨v5, rfl, ho5, hb6⟩
  have HB5 := Aside0.mk (below_step HB4.out hb6)
  have hcv1 : (convert 22 9 (.slice A1 2 c1)).run Try.prog w5 = .ok (.string ⟨#[11, 0]⟩) w5 := Kd.C_string (P := Try.prog) (c := c1) Try.underlying22 Try.underlying5 Try.underlying9 (Kd.C_below HC4.out hb6)
  have hcv2 : (convert 22 9 (.slice A3 5 c3)).run Try.prog w5 = .ok (.string ⟨#[104, 101, 108, 108, 111]⟩) w5 := Kd.C_string (P := Try.prog) (c := c3) Try.underlying22 Try.underlying5 Try.underlying9 (Kd.C_below HC4'.out hb6)
  clear hA hD ho5 hb6 hb3 kc
  go_wp2_with fail
  refine (delta_Make.calls none 0 [] none 0 [] [] _ (Kd.C_nil _ _) (by decide) (Kd.C_nil _ _) (by decide) repriselaw5_known.make0).mono ?_
  rintro e w6 ⟨v6, rfl, ho6, hb7⟩
  obtain ⟨A6, c6, rfl⟩ := Kd.R_slice ho6
  have HB6 := Aside0.mk (below_step HB5.out hb7)
  clear ho6 hb7 hcv1 hcv2
  go_wp2
  go_ret
  exact ⟨by first | rfl | (simp; done), HB6.out⟩

end Go.Proofs.Ytmaefdeigienjaa.QDeltaTells
