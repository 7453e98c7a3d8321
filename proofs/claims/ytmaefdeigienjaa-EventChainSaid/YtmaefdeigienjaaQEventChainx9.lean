/- Lean functions for the Go functions that the law reaches, and proofs that each call comes to just what its Lean function tells; no condition. (Written by a program of this session.) -/
import Derived.Test.YtmaefdeigienjaaQEventChainx0
import Derived.Test.YtmaefdeigienjaaQEventChainx3
import Derived.Test.YtmaefdeigienjaaQEventChainx5
import Derived.Test.YtmaefdeigienjaaQEventChainx6
import Derived.Test.YtmaefdeigienjaaQEventChainx8
namespace Go.Proofs.Ytmaefdeigienjaa.QEventChain
open Go.RowKit Go.Proofs.YtmaefdeigienjaaW.PrintWords Go.Proofs.YtmaefdeigienjaaW.PrintLast Go.Proofs.YtmaefdeigienjaaW.PrintMore
attribute [local go_sem] max2_int min2_int max_two min_two max_three min_three max_four min_four   -- for this text's walks alone
set_option linter.unusedVariables false
set_option linter.unusedSimpArgs false

/-! ### repriselaw23_EventChain: function 4 -/
mutual
def repriselaw23_EventChain.j0 : Nat → List Int → List Int → Bool → Option (Bool)
  | 0, _, _, _ => none
  | k + 1, x0, x1, x27 => if x27 = true then (some true) else ((repriseseat_Events.f k x0 x1).bind fun t343 => (repriselaw23_EventChain.l0 k t343 ([] : List Int) 0 0))
def repriselaw23_EventChain.l0 : Nat → List (S30) → List Int → Int → Int → Option (Bool)
  | 0, _, _, _, _ => none
  | k + 1, x5, x6, x7, x8 => if x8 < (x5.length : Int) then (if 0 ≤ x8 then ((event_Put.f k x7 ((rd_T30 x5 x8).f0) ((rd_T30 x5 x8).f1) ((rd_T30 x5 x8).f2) ((rd_T30 x5 x8).f3) ((rd_T30 x5 x8).f4)).bind fun bt347 => (if bt347.2 = 0 then (if x6.length + bt347.1.length < 140737488355328 then (repriselaw23_EventChain.l0 k x5 (x6 ++ bt347.1) ((rd_T30 x5 x8).f0) (wrap64 (x8 + 1))) else (none)) else (none))) else (none)) else (repriselaw23_EventChain.l1 k x5 x6 0 0)
def repriselaw23_EventChain.l1 : Nat → List (S30) → List Int → Int → Int → Option (Bool)
  | 0, _, _, _, _ => none
  | k + 1, x5, x6, x7, x11 => if x11 < (x5.length : Int) then ((event_Read.f k x7 x6).bind fun bt365 => (if bt365.2.2.2.2.2.2 = 0 then (if bt365.2.2.2.2.2.1 > (x6.length : Int) then (none) else (if bt365.2.2.2.2.2.1 < 1 then (none) else (if 0 ≤ x11 then ((event_Same.f ((rd_T30 x5 x11).f0) ((rd_T30 x5 x11).f1) ((rd_T30 x5 x11).f2) ((rd_T30 x5 x11).f3) ((rd_T30 x5 x11).f4) bt365.1 bt365.2.1 bt365.2.2.1 bt365.2.2.2.1 bt365.2.2.2.2.1).bind fun t376 => (if t376 = true then (if 0 ≤ bt365.2.2.2.2.2.1 then (if bt365.2.2.2.2.2.1 ≤ (x6.length : Int) then (repriselaw23_EventChain.l1 k x5 (x6.drop (bt365.2.2.2.2.2.1 : Int).toNat) bt365.1 (wrap64 (x11 + 1))) else (none)) else (none)) else (none))) else (none)))) else (none))) else ((event_Read.f k x7 x6).bind fun bt355 => (if (x6.length : Int) = 0 then (some (bt355.2.2.2.2.2.2 == 22)) else (none)))
end
def repriselaw23_EventChain.f (k : Nat) (l0 : List Int) (l1 : List Int) : Option (Bool) := (repriselaw23_known.f).bind fun t342 => (if t342 = true then (if (l0.length : Int) > 20 then (repriselaw23_EventChain.j0 k l0 l1 true) else (repriselaw23_EventChain.j0 k l0 l1 (decide ((l1.length : Int) > 10)))) else (none))
theorem repriselaw23_EventChain.mono_l : ∀ k, (∀ y0 y1 y2, LeO (repriselaw23_EventChain.j0 k y0 y1 y2) (repriselaw23_EventChain.j0 (k + 1) y0 y1 y2)) ∧ (∀ y0 y1 y2 y3, LeO (repriselaw23_EventChain.l0 k y0 y1 y2 y3) (repriselaw23_EventChain.l0 (k + 1) y0 y1 y2 y3)) ∧ (∀ y0 y1 y2 y3, LeO (repriselaw23_EventChain.l1 k y0 y1 y2 y3) (repriselaw23_EventChain.l1 (k + 1) y0 y1 y2 y3))
  | 0 => ⟨fun _ _ _ r h => by simp [repriselaw23_EventChain.j0] at h, fun _ _ _ _ r h => by simp [repriselaw23_EventChain.l0] at h, fun _ _ _ _ r h => by simp [repriselaw23_EventChain.l1] at h⟩
  | k + 1 => by
    obtain ⟨ih0, ih1, ih2⟩ := repriselaw23_EventChain.mono_l k
    refine ⟨?_, ?_, ?_⟩
    · intro y0 y1 y2
      unfold repriselaw23_EventChain.j0
      repeat' first
      | (with_reducible exact ih0 _ _ _)
      | (with_reducible exact ih1 _ _ _ _)
      | (with_reducible exact ih2 _ _ _ _)
      | (with_reducible exact event_Put.mono _ _ _ _ _ _ _)
      | (with_reducible exact event_Read.mono _ _ _)
      | (with_reducible exact repriseseat_Events.mono _ _ _)
      | (with_reducible exact LeO.refl _)
      | (with_reducible exact LeO.none _)
      | (with_reducible refine LeO.ite ?_ ?_)
      | (with_reducible refine LeO.bind ?_ (fun _ => ?_))
      | exact ih0 _ _ _
      | exact ih1 _ _ _ _
      | exact ih2 _ _ _ _
      | exact event_Put.mono _ _ _ _ _ _ _
      | exact event_Read.mono _ _ _
      | exact repriseseat_Events.mono _ _ _
      | exact LeO.none _
      | refine LeO.ite ?_ ?_
      | refine LeO.bind ?_ (fun _ => ?_)
    · intro y0 y1 y2 y3
      unfold repriselaw23_EventChain.l0
      repeat' first
      | (with_reducible exact ih0 _ _ _)
      | (with_reducible exact ih1 _ _ _ _)
      | (with_reducible exact ih2 _ _ _ _)
      | (with_reducible exact event_Put.mono _ _ _ _ _ _ _)
      | (with_reducible exact event_Read.mono _ _ _)
      | (with_reducible exact repriseseat_Events.mono _ _ _)
      | (with_reducible exact LeO.refl _)
      | (with_reducible exact LeO.none _)
      | (with_reducible refine LeO.ite ?_ ?_)
      | (with_reducible refine LeO.bind ?_ (fun _ => ?_))
      | exact ih0 _ _ _
      | exact ih1 _ _ _ _
      | exact ih2 _ _ _ _
      | exact event_Put.mono _ _ _ _ _ _ _
      | exact event_Read.mono _ _ _
      | exact repriseseat_Events.mono _ _ _
      | exact LeO.none _
      | refine LeO.ite ?_ ?_
      | refine LeO.bind ?_ (fun _ => ?_)
    · intro y0 y1 y2 y3
      unfold repriselaw23_EventChain.l1
      repeat' first
      | (with_reducible exact ih0 _ _ _)
      | (with_reducible exact ih1 _ _ _ _)
      | (with_reducible exact ih2 _ _ _ _)
      | (with_reducible exact event_Put.mono _ _ _ _ _ _ _)
      | (with_reducible exact event_Read.mono _ _ _)
      | (with_reducible exact repriseseat_Events.mono _ _ _)
      | (with_reducible exact LeO.refl _)
      | (with_reducible exact LeO.none _)
      | (with_reducible refine LeO.ite ?_ ?_)
      | (with_reducible refine LeO.bind ?_ (fun _ => ?_))
      | exact ih0 _ _ _
      | exact ih1 _ _ _ _
      | exact ih2 _ _ _ _
      | exact event_Put.mono _ _ _ _ _ _ _
      | exact event_Read.mono _ _ _
      | exact repriseseat_Events.mono _ _ _
      | exact LeO.none _
      | refine LeO.ite ?_ ?_
      | refine LeO.bind ?_ (fun _ => ?_)
theorem repriselaw23_EventChain.mono : ∀ a0 a1 k, LeO (repriselaw23_EventChain.f k a0 a1) (repriselaw23_EventChain.f (k + 1) a0 a1) := by
  intro a0 a1 k
  obtain ⟨ih0, ih1, ih2⟩ := repriselaw23_EventChain.mono_l k
  unfold repriselaw23_EventChain.f
  repeat' first
      | (with_reducible exact ih0 _ _ _)
      | (with_reducible exact ih1 _ _ _ _)
      | (with_reducible exact ih2 _ _ _ _)
      | (with_reducible exact event_Put.mono _ _ _ _ _ _ _)
      | (with_reducible exact event_Read.mono _ _ _)
      | (with_reducible exact repriseseat_Events.mono _ _ _)
      | (with_reducible exact LeO.refl _)
      | (with_reducible exact LeO.none _)
      | (with_reducible refine LeO.ite ?_ ?_)
      | (with_reducible refine LeO.bind ?_ (fun _ => ?_))
      | exact ih0 _ _ _
      | exact ih1 _ _ _ _
      | exact ih2 _ _ _ _
      | exact event_Put.mono _ _ _ _ _ _ _
      | exact event_Read.mono _ _ _
      | exact repriseseat_Events.mono _ _ _
      | exact LeO.none _
      | refine LeO.ite ?_ ?_
      | refine LeO.bind ?_ (fun _ => ?_)
def repriselaw23_EventChain.T14 : Bool × List (List Nat × List Nat) := (true, [([], []), ([], []), ([0, 1], [0, 1]), ([], []), ([], []), ([3, 4], [3, 4]), ([5], [5]), ([6], [6]), ([2, 2, 0, 1, 2], [0, 2]), ([7, 8, 0, 1, 2, 3, 4, 5, 6, 7, 8], [7])])
def repriselaw23_EventChain.B14 : List Nat := [0, 0, 3, 0, 0, 24, 56, 120, 7, 511]
theorem repriselaw23_EventChain.tab14 : rtab .any (opsOf Try.f4 14) = repriselaw23_EventChain.T14 := by kernel_rfl
theorem repriselaw23_EventChain.bits14 : waitsOk repriselaw23_EventChain.T14.2 repriselaw23_EventChain.B14 = true := by kernel_rfl
def repriselaw23_EventChain.T20 : Bool × List (List Nat × List Nat) := (true, [([], []), ([0], [0]), ([1], [1]), ([2], [2]), ([2], [2]), ([4, 2], [2, 4]), ([3, 5, 2], [2, 3, 5]), ([2, 6], [2, 6]), ([7, 2], [7]), ([8], [8]), ([9, 8], [8, 9]), ([8, 10], [8, 10]), ([11, 8], [11]), ([12], [12]), ([12], [12]), ([13, 14, 12], [12, 13, 14]), ([15, 12], [12, 15]), ([12], [12]), ([16, 17, 12, 12], [12, 16, 17]), ([18, 12], [12, 18]), ([12, 19], [12, 19])])
def repriselaw23_EventChain.B20 : List Nat := [0, 1, 3, 7, 7, 23, 63, 127, 255, 511, 1023, 2047, 4095, 8191, 8191, 32767, 65535, 8191, 262143, 524287, 1048575]
theorem repriselaw23_EventChain.tab20 : rtab .any (opsOf Try.f4 20) = repriselaw23_EventChain.T20 := by kernel_rfl
theorem repriselaw23_EventChain.bits20 : waitsOk repriselaw23_EventChain.T20.2 repriselaw23_EventChain.B20 = true := by kernel_rfl
set_option maxHeartbeats 8000000 in
set_option maxRecDepth 100000 in
theorem repriselaw23_EventChain.calls (k : Nat) (A0 : Option Addr) (c0 : Nat) (l0 : List Int) (A1 : Option Addr) (c1 : Nat) (l1 : List Int) (r : Bool) (w : World) (hr0 : Kd.C (Kd.int .u8) w A0 l0.length l0) (hc0 : l0.length ≤ c0) (hr1 : Kd.C (Kd.int .u8) w A1 l1.length l1) (hc1 : l1.length ≤ c1) (h : repriselaw23_EventChain.f k l0 l1 = some r) :
    Calls Try.prog 4 #[.slice A0 l0.length c0, .slice A1 l1.length c1] w fun e w' => e = .returned (.bool r) ∧ Below w.heap.size w w' := by
  have hu30 := Try.underlying30
  have HR0 := Aside0.mk hr0
  have HC0 := Aside0.mk hc0
  clear hr0 hc0
  have HR1 := Aside0.mk hr1
  have HC1 := Aside0.mk hc1
  clear hr1 hc1
  have HB := Aside0.mk (Below.refl w.heap.size w)
  have H : ((repriselaw23_known.f).bind fun t342 => (if t342 = true then (if (l0.length : Int) > 20 then (repriselaw23_EventChain.j0 k l0 l1 true) else (repriselaw23_EventChain.j0 k l0 l1 (decide ((l1.length : Int) > 10)))) else (none))) = some r := h
  clear h
  replace H := Option.bind_eq_some_iff.mp H
  obtain ⟨t342, A30, H⟩ := H
  replace H : (if t342 = true then (if (l0.length : Int) > 20 then (repriselaw23_EventChain.j0 k l0 l1 true) else (repriselaw23_EventChain.j0 k l0 l1 (decide ((l1.length : Int) > 10)))) else (none)) = some r := H
  have A3 := Aside0.mk A30
  clear A30
  by_cases c4 : t342 = true
  · subst c4
    have H1 : (if (l0.length : Int) > 20 then (repriselaw23_EventChain.j0 k l0 l1 true) else (repriselaw23_EventChain.j0 k l0 l1 (decide ((l1.length : Int) > 10)))) = some r := by rw [if_pos rfl] at H; exact H
    clear H
    have H := H1
    clear H1
    have HC5 := Aside0.mk H
    clear H
    go_enter Try.func4, Try.ntmps4
    go_upto_region 3 with (first | ((with_reducible refine gate_callee (f := 11) rfl ?_); refine goesL_ (some 18) rfl rfl Try.func11 (by kernel_rfl) rfl #[] rfl (by (try simp only [List.map_toArray, List.map_cons, List.map_nil]); first | done | rfl | (simp only [List.length_drop, List.length_take]; rfl)) ?_; (with_reducible refine (repriselaw23_known.calls  true _ A3.out).mono ?_); rintro e w6 ⟨rfl, hb⟩; refine ⟨_, rfl, ?_⟩; have n0_ := Aside0.mk (below_step (by repeat (first | (with_reducible first | exact HB.out | apply below_alloc | apply pw_below_drewN | apply below_drew1) | exact HB.out)) hb); clear HB; have HB := n0_; clear n0_; (try clear hb); (try clear hb2); (try clear hk); (try clear hi)))
    (try simp only [Act.put, List.setIfInBounds_toArray, List.set_cons_zero, List.set_cons_succ])
    go_cut [27] (fun v27 wc => ∃ (kq : Nat) (x27_4 : Bool), v27 = .bool x27_4 ∧ Aside0 (repriselaw23_EventChain.j0 kq l0 l1 x27_4 = some r) ∧ Aside0 (kq ≤ k) ∧ Aside0 (Below w.heap.size w wc))
    case first =>
      have H := HC5.out
      clear HC5
      by_cases c7 : (l0.length : Int) > 20
      · rw [if_pos c7] at H
        have c7b0 : decide (20 < (l0.length : Int)) = true := decide_eq_true c7
        have c7b1 : decide (20 < l0.length) = true := decide_eq_true (by omega)
        clear c7
        (first | rw [c7b0] | (simp only [i64_w, i32_w]; rw [c7b0]) | skip)
        have H' := Aside0.mk H
        clear H
        go_wp2
        go_meet
        case rel => exact ⟨_, (true), (by first | rfl | (simp; done) | (simp [*]; done)), H', ⟨by first | omega | exact Nat.le_refl _⟩, ⟨by repeat (first | (with_reducible first | exact HB.out | apply below_alloc | apply pw_below_drewN | apply below_drew1) | exact HB.out)⟩⟩
      · rw [if_neg c7] at H
        have c7b0 : decide (20 < (l0.length : Int)) = false := decide_eq_false c7
        have c7b1 : decide (20 < l0.length) = false := decide_eq_false (by omega)
        clear c7
        (first | rw [c7b0] | (simp only [i64_w, i32_w]; rw [c7b0]) | skip)
        have H' := Aside0.mk H
        clear H
        go_wp2
        go_meet
        case rel => exact ⟨_, (decide ((l1.length : Int) > 10)), (by first | rfl | (simp; done) | (simp [*]; done)), H', ⟨by first | omega | exact Nat.le_refl _⟩, ⟨by repeat (first | (with_reducible first | exact HB.out | apply below_alloc | apply pw_below_drewN | apply below_drew1) | exact HB.out)⟩⟩
    case rest =>
      clear HC5
      try clear c1
      try clear p2
      try clear c4
      try clear c7
      try clear c7b0
      try clear c7b1
      obtain ⟨kq, x27_4, rfl, HA, HJ4, HB⟩ := hcut
      cases kq with
      | zero => exact absurd HA.out (by simp [repriselaw23_EventChain.j0])
      | succ kj4 =>
        have H := HA.out
        clear HA
        simp only [repriselaw23_EventChain.j0] at H
        by_cases c8 : x27_4 = true
        · subst c8
          have H1 : (some true) = some r := by rw [if_pos rfl] at H; exact H
          clear H
          have H := H1
          clear H1
          obtain rfl := Option.some.inj H
          go_wp2
          go_ret
          exact ⟨by first | rfl | (simp [errW_none, errW_some] <;> rfl) | (simp [*, errW_none, errW_some] <;> rfl), by repeat (first | (with_reducible first | exact HB.out | apply below_alloc | apply pw_below_drewN | apply below_drew1) | exact HB.out)⟩
        · replace c8 := Bool.eq_false_iff.mpr c8
          subst c8
          have H1 : ((repriseseat_Events.f kj4 l0 l1).bind fun t343 => (repriselaw23_EventChain.l0 kj4 t343 ([] : List Int) 0 0)) = some r := by rw [if_neg (show ¬ (false = true) by decide)] at H; exact H
          clear H
          have H := H1
          clear H1
          replace H := Option.bind_eq_some_iff.mp H
          obtain ⟨t343, A90, H⟩ := H
          replace H : (repriselaw23_EventChain.l0 kj4 t343 ([] : List Int) 0 0) = some r := H
          have A9 := Aside0.mk A90
          clear A90
          have H' := Aside0.mk H
          clear H
          go_wp2_with (first | ((with_reducible refine gate_callee (f := 12) rfl ?_); refine goesL_ (some 30) rfl rfl Try.func12 (by kernel_rfl) rfl #[.slice A0 l0.length c0, .slice A1 l1.length c1] rfl (by (try simp only [List.map_toArray, List.map_cons, List.map_nil]); first | done | rfl | (simp only [List.length_drop, List.length_take]; rfl)) ?_; (with_reducible refine (repriseseat_Events.calls kj4 _ _ l0 _ _ l1 t343 _ ?side1 ?side2 ?side3 ?side4 A9.out).mono ?_); (case side1 => repeat (first | exact (Kd.C_below HR0.out HB.out) | (with_reducible refine Kd.C_alloc ?_ _) | (with_reducible refine Kd.C_drewN ?_ _) | (with_reducible refine Kd.C_drew ?_))); (case side2 => exact HC0.out); (case side3 => repeat (first | exact (Kd.C_below HR1.out HB.out) | (with_reducible refine Kd.C_alloc ?_ _) | (with_reducible refine Kd.C_drewN ?_ _) | (with_reducible refine Kd.C_drew ?_))); (case side4 => exact HC1.out); rintro e w10 ⟨v344, rfl, ho0, hb⟩; refine ⟨_, rfl, ?_⟩; have n0_ := Aside0.mk (Kd.N_lower (Kd.N_mono (ok' := fun k_ => True) ho0 (fun k_ hk_ => trivial)) (below_size (by repeat (first | (with_reducible first | exact HB.out | apply below_alloc | apply pw_below_drewN | apply below_drew1) | exact HB.out)))); have n1_ := Aside0.mk (below_step (by repeat (first | (with_reducible first | exact HB.out | apply below_alloc | apply pw_below_drewN | apply below_drew1) | exact HB.out)) hb); clear HB; have HO345 := n0_; have HB := n1_; clear n0_ n1_; (try clear hb); (try clear hb2); (try clear hk); (try clear hi); (try clear ho0)))
          go_loopg [6, 7, 8] kj4 (fun kq v6 v7 v8 w' => ∃ (x6_2 : List Int) (x7_2 : Int) (x8_2 : Int), v7 = .int .i64 x7_2 ∧ v8 = .int .i64 x8_2 ∧ Aside0 (repriselaw23_EventChain.l0 kq t343 x6_2 x7_2 x8_2 = some r) ∧ Aside0 (kq ≤ kj4) ∧ Aside0 (Kd.N k30 30 w' w.heap.size (fun k_ => some k_ ≠ (v6 : Value).ownBlock) v344 t343) ∧ Aside0 (Kd.R (Kd.int .u8) 5 w' w.heap.size (fun _ => True) v6 x6_2) ∧ Aside0 (Below w.heap.size w w'))
          case atStart => exact ⟨(([] : List Int)), (0), (0), (by first | rfl | (simp; done) | (simp [*]; done)), (by first | rfl | (simp; done) | (simp [*]; done)), H', ⟨Nat.le_refl _⟩, ⟨by (with_reducible repeat (first | apply Kd.N_alloc | apply Kd.N_drewN | apply Kd.N_drew)); exact Kd.N_mono HO345.out (fun _ hk => (by simp [Value.ownBlock]))⟩, ⟨by first | exact Kd.R_nil _ _ _ _ _ | exact Kd.N_nil _ _ _ _ _ | exact Kd.V_nil _ _ _ _ _ | exact Kd.Q_nil _ _ _ _ _ | exact Kd.S_nil _ _ _ _ _⟩, ⟨by repeat (first | (with_reducible first | exact HB.out | apply below_alloc | apply pw_below_drewN | apply below_drew1) | exact HB.out)⟩⟩
          case round =>
            clear H'
            try clear c1
            try clear p2
            try clear c4
            try clear c7
            try clear c7b0
            try clear c7b1
            try clear c8
            try clear p2
            obtain ⟨x6_2, x7_2, x8_2, rfl, rfl, HA, HK2, HO_5, HO_6, HB⟩ := hrel
            cases gk with
            | zero => exact absurd HA.out (by simp [repriselaw23_EventChain.l0])
            | succ k2 =>
              have H := HA.out
              clear HA
              simp only [repriselaw23_EventChain.l0] at H
              by_cases c11 : x8_2 < (t343.length : Int)
              · rw [if_pos c11] at H
                have c11b0 : decide (x8_2 < (t343.length : Int)) = true := decide_eq_true c11
                clear c11
                by_cases c12 : 0 ≤ x8_2
                · rw [if_pos c12] at H
                  have c12b0 : decide (0 ≤ x8_2) = true := decide_eq_true c12
                  clear c12
                  replace H := Option.bind_eq_some_iff.mp H
                  obtain ⟨⟨t347, t350⟩, A130, H⟩ := H
                  replace H : (if t350 = 0 then (if x6_2.length + t347.length < 140737488355328 then (repriselaw23_EventChain.l0 k2 t343 (x6_2 ++ t347) ((rd_T30 t343 x8_2).f0) (wrap64 (x8_2 + 1))) else (none)) else (none)) = some r := H
                  have A13 := Aside0.mk A130
                  clear A130
                  by_cases c14 : t350 = 0
                  · rw [if_pos c14] at H
                    have c14b0 : (t350 == 0) = true := beq_iff_eq.mpr c14
                    have c14b1 : (t350 != 0) = false := bne_eq_false_iff_eq.mpr c14
                    clear c14
                    by_cases c15 : x6_2.length + t347.length < 140737488355328
                    · rw [if_pos c15] at H
                      have LMc15 := Aside0.mk c15
                      clear c15
                      obtain ⟨y351, hy351⟩ : ∃ y_ : List Int, y_ = (x6_2 ++ t347) := ⟨_, rfl⟩
                      replace H : (repriselaw23_EventChain.l0 k2 t343 y351 ((rd_T30 t343 x8_2).f0) (wrap64 (x8_2 + 1))) = some r := by first | (rw [hy351]; with_reducible exact H) | (have H2_ := (Option.bind_some _ _).symm.trans H; rw [hy351]; with_reducible exact H2_) | (have H2_ := (Option.bind_some _ _).symm.trans H; with_reducible exact H2_) | with_reducible exact H | (rw [hy351]; exact H) | exact H
                      have Ny351 := Aside0.mk hy351
                      clear hy351
                      have H' := Aside0.mk H
                      clear H
                      obtain ⟨Ao16, co16, eo16⟩ := Kd.N_slice HO_5.out
                      subst eo16
                      have p346 : 0 ≤ (x8_2 : Int) := of_decide_eq_true (by first | (with_reducible assumption) | assumption)
                      have q346 : x8_2 < (t343.length : Int) := of_decide_eq_true (by first | (with_reducible assumption) | assumption)
                      obtain ⟨ad346, A346_2, c346_2, e346, hx346_0, hx346_1, hx346_2, hx346_3, hx346_4, hl346_2, hi346_2⟩ := at_T30 (Kd.N_reads' HO_5.out).2.2 x8_2 p346 q346
                      cases e346
                      obtain ⟨ce346, hce346, hMe346, hcc346⟩ := Kd.N_get HO_5.out z30 x8_2 p346 (by first | exact q346 | exact of_decide_eq_true (by first | (with_reducible assumption) | assumption) | (have e_ := (Kd.N_reads' HO_5.out).1; omega))
                      obtain ⟨ua346_2, uc346_2, rfl, ul346_2, ge346_2⟩ := k30_openF hMe346
                      have hv346_2 := hcc346 2 _ rfl
                      rw [add_field _ _ 2 (by omega)] at hv346_2
                      replace hv346_2 := Option.some.inj (hv346_2.symm.trans hx346_2)
                      injection hv346_2 with hva_ hvn_ hvc_
                      rw [hva_] at ge346_2
                      rw [hvc_] at ul346_2
                      have HL346_2 := Aside0.mk (show Kd.V (Kd.int .u8) 5 _ w.heap.size _ _ ((rd_T30 t343 x8_2).f2) from Kd.V_mk ul346_2 ge346_2)
                      clear hva_ hvn_ hvc_ ge346_2 ul346_2
                      clear hcc346 hce346
                      have HR346_2 := Aside0.mk hi346_2
                      have HC346_2 := Aside0.mk hl346_2
                      clear hi346_2 hl346_2
                      replace p346 := eq_true p346
                      replace q346 := eq_true q346
                      try go_wp2_with (first | ((with_reducible refine gate_callee (f := 17) rfl ?_); refine goesL_ (some 43) rfl rfl Try.func17 (by kernel_rfl) rfl #[.int .i64 x7_2, .agg #[.int .i64 ((rd_T30 t343 x8_2).f0), .int .i64 ((rd_T30 t343 x8_2).f1), .slice A346_2 ((rd_T30 t343 x8_2).f2).length c346_2, .int .i64 ((rd_T30 t343 x8_2).f3), .int .i64 ((rd_T30 t343 x8_2).f4)]] rfl (by (try simp only [List.map_toArray, List.map_cons, List.map_nil]); first | done | rfl | (simp only [List.length_drop, List.length_take]; rfl)) ?_; (with_reducible refine (event_Put.calls k2 x7_2 ((rd_T30 t343 x8_2).f0) ((rd_T30 t343 x8_2).f1) _ _ ((rd_T30 t343 x8_2).f2) ((rd_T30 t343 x8_2).f3) ((rd_T30 t343 x8_2).f4) t347 t350 _ ?side1 ?side2 A13.out).mono ?_); (case side1 => repeat (first | exact (by repeat (first | (with_reducible exact HR346_2.out) | (with_reducible refine Kd.C_alloc ?_ _) | (with_reducible refine Kd.C_drewN ?_ _) | (with_reducible refine Kd.C_drew ?_) | exact HR346_2.out)) | (with_reducible refine Kd.C_alloc ?_ _) | (with_reducible refine Kd.C_drewN ?_ _) | (with_reducible refine Kd.C_drew ?_))); (case side2 => exact HC346_2.out); rintro e w17 ⟨v348, rfl, ho0, hb⟩; refine ⟨_, rfl, ?_⟩; have n0_ := Aside0.mk (Kd.N_elder' (by (with_reducible repeat (first | apply Kd.N_alloc | apply Kd.N_drewN | apply Kd.N_drew)); exact HO_5.out) (Kd.R_base ho0) hb); have n1_ := Aside0.mk (Kd.R_elder' (by (with_reducible repeat (first | apply Kd.R_alloc | apply Kd.R_drewN | apply Kd.R_drew)); exact HO_6.out) (Kd.R_base ho0) hb); have n2_ := Aside0.mk (Kd.V_elder' (by (with_reducible repeat (first | apply Kd.V_alloc | apply Kd.V_drewN | apply Kd.V_drew)); exact HL346_2.out) (Kd.R_base ho0) hb); have n3_ := Aside0.mk (Kd.R_lower (Kd.R_new' ho0 (Kd.R_lt (by (with_reducible repeat (first | apply Kd.R_alloc | apply Kd.R_drewN | apply Kd.R_drew)); exact HO_6.out))) (below_size (by repeat (first | (with_reducible first | exact HB.out | apply below_alloc | apply pw_below_drewN | apply below_drew1) | exact HB.out)))); have n4_ := Aside0.mk (Kd.C_below (by repeat (first | (with_reducible exact HR346_2.out) | (with_reducible refine Kd.C_alloc ?_ _) | (with_reducible refine Kd.C_drewN ?_ _) | (with_reducible refine Kd.C_drew ?_) | exact HR346_2.out)) hb); have n5_ := Aside0.mk (below_step (by repeat (first | (with_reducible first | exact HB.out | apply below_alloc | apply pw_below_drewN | apply below_drew1) | exact HB.out)) hb); clear HO_5; clear HO_6; clear HL346_2; clear HR346_2; clear HB; have HO_5 := n0_; have HO_6 := n1_; have HL346_2 := n2_; have HO349 := n3_; have HR346_2 := n4_; have HB := n5_; clear n0_ n1_ n2_ n3_ n4_ n5_; (try clear hb); (try clear hb2); (try clear hk); (try clear hi); (try clear ho0)))
                      have n0_ := Aside0.mk (Kd.N_drew HO_5.out)
                      have n1_ := Aside0.mk (Kd.R_drew HO_6.out)
                      have n2_ := Aside0.mk (Kd.V_drew HL346_2.out)
                      have n3_ := Aside0.mk (Kd.R_drew HO349.out)
                      have n4_ := Aside0.mk (Kd.C_drew HR346_2.out)
                      have n5_ := Aside0.mk (below_drew1 HB.out)
                      clear HO_5
                      clear HO_6
                      clear HL346_2
                      clear HO349
                      clear HR346_2
                      clear HB
                      have HO_5 := n0_
                      have HO_6 := n1_
                      have HL346_2 := n2_
                      have HO349 := n3_
                      have HR346_2 := n4_
                      have HB := n5_
                      clear n0_ n1_ n2_ n3_ n4_ n5_
                      have p354 : 0 ≤ (x8_2 : Int) := of_decide_eq_true (by first | (with_reducible assumption) | assumption)
                      have q354 : x8_2 < (t343.length : Int) := of_decide_eq_true (by first | (with_reducible assumption) | assumption)
                      obtain ⟨ad354, A354_2, c354_2, e354, hx354_0, hx354_1, hx354_2, hx354_3, hx354_4, hl354_2, hi354_2⟩ := at_T30 (Kd.N_reads' HO_5.out).2.2 x8_2 p354 q354
                      obtain rfl : ad346 = ad354 := (by injection e354)
                      obtain ⟨ce354, hce354, hMe354, hcc354⟩ := Kd.N_get HO_5.out z30 x8_2 p354 (by first | exact q354 | exact of_decide_eq_true (by first | (with_reducible assumption) | assumption) | (have e_ := (Kd.N_reads' HO_5.out).1; omega))
                      obtain ⟨ua354_2, uc354_2, rfl, ul354_2, ge354_2⟩ := k30_openF hMe354
                      have hv354_2 := hcc354 2 _ rfl
                      rw [add_field _ _ 2 (by omega)] at hv354_2
                      replace hv354_2 := Option.some.inj (hv354_2.symm.trans hx354_2)
                      injection hv354_2 with hva_ hvn_ hvc_
                      rw [hva_] at ge354_2
                      rw [hvc_] at ul354_2
                      have HL354_2 := Aside0.mk (show Kd.V (Kd.int .u8) 5 _ w.heap.size _ _ ((rd_T30 t343 x8_2).f2) from Kd.V_mk ul354_2 ge354_2)
                      clear hva_ hvn_ hvc_ ge354_2 ul354_2
                      clear hcc354 hce354
                      have HR354_2 := Aside0.mk hi354_2
                      have HC354_2 := Aside0.mk hl354_2
                      clear hi354_2 hl354_2
                      replace p354 := eq_true p354
                      replace q354 := eq_true q354
                      obtain ⟨Ao20, co20, eo20⟩ := Kd.R_slice HO349.out
                      (first | subst eo20 | (injection eo20 with f1_ f2_ f3_; have f4_ := f1_.symm; have f5_ := f3_.symm; clear f1_ f2_ f3_; subst f4_; subst f5_))
                      refine start_ (n := 10) (S := fun w' => w'.cell? (ad346.add ((x8_2).toNat * 5)) = some (.int .i64 ((rd_T30 t343 x8_2).f0)) ∧ w'.cell? ⟨(ad346.add ((x8_2).toNat * 5)).block, (ad346.add ((x8_2).toNat * 5)).off + 1, none⟩ = some (.int .i64 ((rd_T30 t343 x8_2).f1)) ∧ w'.cell? ⟨(ad346.add ((x8_2).toNat * 5)).block, (ad346.add ((x8_2).toNat * 5)).off + 2, none⟩ = some (.slice A354_2 ((rd_T30 t343 x8_2).f2).length c354_2) ∧ w'.cell? ⟨(ad346.add ((x8_2).toNat * 5)).block, (ad346.add ((x8_2).toNat * 5)).off + 3, none⟩ = some (.int .i64 ((rd_T30 t343 x8_2).f3)) ∧ w'.cell? ⟨(ad346.add ((x8_2).toNat * 5)).block, (ad346.add ((x8_2).toNat * 5)).off + 4, none⟩ = some (.int .i64 ((rd_T30 t343 x8_2).f4))) (ds := []) #[false, false, false, false, false, false, false, false, false, false] (by kernel_rfl) rfl rfl ⟨hx354_0, hx354_1, hx354_2, hx354_3, hx354_4⟩ (fun hHeld => ?_); refine with_tabW repriselaw23_EventChain.tab14 repriselaw23_EventChain.bits14 (fun HT_ HW_ => ?_)
                      generalize w17.drew = w18 at HO_5 HO_6 HL346_2 HO349 HR346_2 HB HL354_2 HR354_2 hx354_0 hx354_1 hx354_2 hx354_3 hx354_4 hHeld ⊢
                      refine pure_ (i := 0) (N := some 48) (v := ?_) (a' := ?_) #[true, false, false, false, false, false, false, false, false, false] rfl rfl (any_of HT_.out (by kernel_rfl)) (fun _ _ _ h => h) (Or.inl ⟨by rfl, ?_⟩) ?_ ?_
                      rotate_left
                      · intro w'
                        go_simp
                        with_reducible rfl
                      rotate_left
                      · simp only [Act.put, List.setIfInBounds_toArray, List.set_cons_zero, List.set_cons_succ, i64_w, i32_w]
                        rfl
                      refine pure_ (i := 1) (N := some 49) (v := ?_) (a' := ?_) #[true, true, false, false, false, false, false, false, false, false] rfl rfl (any_of HT_.out (by kernel_rfl)) (fun _ _ _ h => h) (Or.inl ⟨by rfl, ?_⟩) ?_ ?_
                      rotate_left
                      · intro w'
                        go_simp
                        with_reducible rfl
                      rotate_left
                      · simp only [Act.put, List.setIfInBounds_toArray, List.set_cons_zero, List.set_cons_succ, i64_w, i32_w]
                        rfl
                      refine pure_ (i := 3) (N := some 51) (v := ?_) (a' := ?_) #[true, true, false, true, false, false, false, false, false, false] rfl rfl (any_of HT_.out (by kernel_rfl)) (fun _ _ _ h => h) (Or.inl ⟨by rfl, ?_⟩) ?_ ?_
                      rotate_left
                      · intro w'
                        go_simp
                        with_reducible rfl
                      rotate_left
                      · simp only [Act.put, List.setIfInBounds_toArray, List.set_cons_zero, List.set_cons_succ, i64_w, i32_w]
                        rfl
                      refine pure_ (i := 4) (N := some 52) (v := ?_) (a' := ?_) #[true, true, false, true, true, false, false, false, false, false] rfl rfl (any_of HT_.out (by kernel_rfl)) (fun _ _ _ h => h) (Or.inl ⟨by rfl, ?_⟩) ?_ ?_
                      rotate_left
                      · intro w'
                        go_simp
                        with_reducible rfl
                      rotate_left
                      · simp only [Act.put, List.setIfInBounds_toArray, List.set_cons_zero, List.set_cons_succ, i64_w, i32_w]
                        rfl
                      refine pure_ (i := 5) (N := some 53) (v := ?_) (a' := ?_) #[true, true, false, true, true, true, false, false, false, false] rfl rfl (any_of HT_.out (by kernel_rfl)) (fun _ _ _ h => h) (Or.inl ⟨by rfl, ?_⟩) ?_ ?_
                      rotate_left
                      · intro w'
                        go_simp
                        with_reducible rfl
                      rotate_left
                      · simp only [Act.put, List.setIfInBounds_toArray, List.set_cons_zero, List.set_cons_succ, i64_w, i32_w]
                        rfl
                      refine pure_ (i := 6) (N := some 54) (v := ?_) (a' := ?_) #[true, true, false, true, true, true, true, false, false, false] rfl rfl (any_of HT_.out (by kernel_rfl)) (fun _ _ _ h => h) (Or.inl ⟨by rfl, ?_⟩) ?_ ?_
                      rotate_left
                      · intro w'
                        go_simp
                        with_reducible rfl
                      rotate_left
                      · simp only [Act.put, List.setIfInBounds_toArray, List.set_cons_zero, List.set_cons_succ, i64_w, i32_w]
                        rfl
                      refine take_ (i := 7) (N := some 55) (v := ?_) (a' := ?_) #[true, true, false, true, true, true, true, true, false, false] rfl rfl (take_ofW HT_.out HW_.out (by kernel_rfl)) (fun _ _ _ h => h) (Or.inl ⟨by rfl, ?_⟩) hHeld ?_ ?_
                      rotate_left
                      · rintro w' ⟨s0, s1, s2, s3, s4⟩
                        go_simp
                        with_reducible rfl
                      rotate_left
                      · simp only [Act.put, List.setIfInBounds_toArray, List.set_cons_zero, List.set_cons_succ, i64_w, i32_w]
                        rfl
                      refine one_ (i := 2) (N := some 50) #[true, true, true, true, true, true, true, true, false, false] rfl rfl (one_of HT_.out (by kernel_rfl)) (by decide) (fun K hK => ?_)
                      refine Kd.R_append_rows_step (Kd.int .u8) (w0 := w) w.heap.size (by rfl) (.tmp 48) (.tmp 49) 22 5 (.int .u8 0) 1 rfl Try.underlying22 info5 rfl (by decide) (by omega) u6 x6_2 t347 _ _ _ (fun k_ => some k_ ≠ (.slice Ao20 t347.length co20 : Value).ownBlock) (fun _ => False) rfl rfl ?aO ?aR (fun _ _ h => h) (fun _ h => h.elim) ?aF ?aB ?aS ?aL ?_
                      (case aR => repeat (first | exact (Kd.R_reads' HO349.out).2.2 | (with_reducible refine Kd.C_alloc ?_ _) | (with_reducible refine Kd.C_drewN ?_ _) | (with_reducible refine Kd.C_drew ?_)))
                      (case aB => exact (by repeat (first | (with_reducible first | exact HB.out | apply below_alloc | apply pw_below_drewN | apply below_drew1) | exact HB.out)))
                      (case aF => exact (fun k_ hk => Kd.fresh' (Kd.R_lt (by (with_reducible repeat (first | apply Kd.R_alloc | apply Kd.R_drewN | apply Kd.R_drew)); exact HO349.out)) k_ hk))
                      (case aO => exact (by (with_reducible repeat (first | apply Kd.R_alloc | apply Kd.R_drewN | apply Kd.R_drew)); exact Kd.R_mono HO_6.out (fun _ hk => hk.2)))
                      (case aS => exact (below_size (by repeat (first | (with_reducible first | exact HB.out | apply below_alloc | apply pw_below_drewN | apply below_drew1) | exact HB.out))))
                      (case aL => have := LMc15.out; omega)
                      intro v352 w19 ho hb hg hat
                      have HS0_ := cell_grown hg (hHeld.1) (by first | (rw [add_block]; exact (Kd.own_ne2 (v := .slice (some ad346) t343.length co16) (e := 30) (by exact (Kd.N_typed HO_5.out)) (by first | exact (Kd.R_typed HO_6.out) | exact (Kd.S_typed HO_6.out) | exact (Kd.N_typed HO_6.out)) (by rfl) (by decide))) | (show some (Addr.add _ _).block ≠ _; rw [add_block]; exact (Kd.own_ne2 (v := .slice (some ad346) t343.length co16) (e := 30) (by exact (Kd.N_typed HO_5.out)) (by first | exact (Kd.R_typed HO_6.out) | exact (Kd.S_typed HO_6.out) | exact (Kd.N_typed HO_6.out)) (by rfl) (by decide))) | exact (Kd.own_ne2 (v := .slice (some ad346) t343.length co16) (e := 30) (by exact (Kd.N_typed HO_5.out)) (by first | exact (Kd.R_typed HO_6.out) | exact (Kd.S_typed HO_6.out) | exact (Kd.N_typed HO_6.out)) (by rfl) (by decide)))
                      have HS1_ := cell_grown hg (hHeld.2.1) (by first | (rw [add_block]; exact (Kd.own_ne2 (v := .slice (some ad346) t343.length co16) (e := 30) (by exact (Kd.N_typed HO_5.out)) (by first | exact (Kd.R_typed HO_6.out) | exact (Kd.S_typed HO_6.out) | exact (Kd.N_typed HO_6.out)) (by rfl) (by decide))) | (show some (Addr.add _ _).block ≠ _; rw [add_block]; exact (Kd.own_ne2 (v := .slice (some ad346) t343.length co16) (e := 30) (by exact (Kd.N_typed HO_5.out)) (by first | exact (Kd.R_typed HO_6.out) | exact (Kd.S_typed HO_6.out) | exact (Kd.N_typed HO_6.out)) (by rfl) (by decide))) | exact (Kd.own_ne2 (v := .slice (some ad346) t343.length co16) (e := 30) (by exact (Kd.N_typed HO_5.out)) (by first | exact (Kd.R_typed HO_6.out) | exact (Kd.S_typed HO_6.out) | exact (Kd.N_typed HO_6.out)) (by rfl) (by decide)))
                      have HS2_ := cell_grown hg (hHeld.2.2.1) (by first | (rw [add_block]; exact (Kd.own_ne2 (v := .slice (some ad346) t343.length co16) (e := 30) (by exact (Kd.N_typed HO_5.out)) (by first | exact (Kd.R_typed HO_6.out) | exact (Kd.S_typed HO_6.out) | exact (Kd.N_typed HO_6.out)) (by rfl) (by decide))) | (show some (Addr.add _ _).block ≠ _; rw [add_block]; exact (Kd.own_ne2 (v := .slice (some ad346) t343.length co16) (e := 30) (by exact (Kd.N_typed HO_5.out)) (by first | exact (Kd.R_typed HO_6.out) | exact (Kd.S_typed HO_6.out) | exact (Kd.N_typed HO_6.out)) (by rfl) (by decide))) | exact (Kd.own_ne2 (v := .slice (some ad346) t343.length co16) (e := 30) (by exact (Kd.N_typed HO_5.out)) (by first | exact (Kd.R_typed HO_6.out) | exact (Kd.S_typed HO_6.out) | exact (Kd.N_typed HO_6.out)) (by rfl) (by decide)))
                      have HS3_ := cell_grown hg (hHeld.2.2.2.1) (by first | (rw [add_block]; exact (Kd.own_ne2 (v := .slice (some ad346) t343.length co16) (e := 30) (by exact (Kd.N_typed HO_5.out)) (by first | exact (Kd.R_typed HO_6.out) | exact (Kd.S_typed HO_6.out) | exact (Kd.N_typed HO_6.out)) (by rfl) (by decide))) | (show some (Addr.add _ _).block ≠ _; rw [add_block]; exact (Kd.own_ne2 (v := .slice (some ad346) t343.length co16) (e := 30) (by exact (Kd.N_typed HO_5.out)) (by first | exact (Kd.R_typed HO_6.out) | exact (Kd.S_typed HO_6.out) | exact (Kd.N_typed HO_6.out)) (by rfl) (by decide))) | exact (Kd.own_ne2 (v := .slice (some ad346) t343.length co16) (e := 30) (by exact (Kd.N_typed HO_5.out)) (by first | exact (Kd.R_typed HO_6.out) | exact (Kd.S_typed HO_6.out) | exact (Kd.N_typed HO_6.out)) (by rfl) (by decide)))
                      have HS4_ := cell_grown hg (hHeld.2.2.2.2) (by first | (rw [add_block]; exact (Kd.own_ne2 (v := .slice (some ad346) t343.length co16) (e := 30) (by exact (Kd.N_typed HO_5.out)) (by first | exact (Kd.R_typed HO_6.out) | exact (Kd.S_typed HO_6.out) | exact (Kd.N_typed HO_6.out)) (by rfl) (by decide))) | (show some (Addr.add _ _).block ≠ _; rw [add_block]; exact (Kd.own_ne2 (v := .slice (some ad346) t343.length co16) (e := 30) (by exact (Kd.N_typed HO_5.out)) (by first | exact (Kd.R_typed HO_6.out) | exact (Kd.S_typed HO_6.out) | exact (Kd.N_typed HO_6.out)) (by rfl) (by decide))) | exact (Kd.own_ne2 (v := .slice (some ad346) t343.length co16) (e := 30) (by exact (Kd.N_typed HO_5.out)) (by first | exact (Kd.R_typed HO_6.out) | exact (Kd.S_typed HO_6.out) | exact (Kd.N_typed HO_6.out)) (by rfl) (by decide)))
                      rw [← Ny351.out] at ho
                      have n0_ := Aside0.mk (Kd.N_afterv (ok := (fun k_ => some k_ ≠ (.slice Ao20 t347.length co20 : Value).ownBlock)) (by (with_reducible repeat (first | apply Kd.N_alloc | apply Kd.N_drewN | apply Kd.N_drew)); exact Kd.N_mono HO_5.out (fun _ hk => ⟨hk.2, hk.1⟩)) hg hat)
                      have n1_ := Aside0.mk (Kd.V_afterv (ok := (fun k_ => some k_ ≠ (.slice (some ad346) t343.length co16 : Value).ownBlock ∧ some k_ ≠ (.slice Ao20 t347.length co20 : Value).ownBlock)) (by (with_reducible repeat (first | apply Kd.V_alloc | apply Kd.V_drewN | apply Kd.V_drew)); exact Kd.V_mono HL346_2.out (fun _ hk => ⟨⟨hk.1.2, hk.2⟩, hk.1.1⟩)) hg hat)
                      have n2_ := Aside0.mk (Kd.R_after (ok := (fun _ => True)) (by (with_reducible repeat (first | apply Kd.R_alloc | apply Kd.R_drewN | apply Kd.R_drew)); exact HO349.out) hg hat)
                      have n3_ := Aside0.mk (Kd.V_afterv (ok := (fun k_ => some k_ ≠ (.slice (some ad346) t343.length co16 : Value).ownBlock ∧ some k_ ≠ (.slice Ao20 t347.length co20 : Value).ownBlock)) (by (with_reducible repeat (first | apply Kd.V_alloc | apply Kd.V_drewN | apply Kd.V_drew)); exact Kd.V_mono HL354_2.out (fun _ hk => ⟨⟨hk.2, hk.1.2⟩, hk.1.1⟩)) hg hat)
                      have n4_ := Aside0.mk (hb)
                      have n5_ := Aside0.mk (ho)
                      clear HO_5
                      clear HL346_2
                      clear HO349
                      clear HL354_2
                      clear HB
                      clear HO_6
                      have HO_5 := n0_
                      have HL346_2 := n1_
                      have HO349 := n2_
                      have HL354_2 := n3_
                      have HB := n4_
                      have HO353 := n5_
                      clear n0_ n1_ n2_ n3_ n4_ n5_
                      clear ho hb hg hat
                      refine hK.out _ _ ⟨HS0_, HS1_, HS2_, HS3_, HS4_⟩ (fun hHeld => ?_)
                      clear hK K
                      refine norm_ (a' := ?_) ?_ ?_
                      rotate_left
                      · show Act.put _ (some 50) _ = _
                        simp only [Act.put, List.setIfInBounds_toArray, List.set_cons_zero, List.set_cons_succ, i64_w, i32_w]
                        rfl
                      refine pure_ (i := 8) (N := some 6) (v := ?_) (a' := ?_) #[true, true, true, true, true, true, true, true, true, false] rfl rfl (any_of HT_.out (by kernel_rfl)) (fun _ _ _ h => h) (Or.inl ⟨by rfl, ?_⟩) ?_ ?_
                      rotate_left
                      · intro w'
                        go_simp
                        with_reducible rfl
                      rotate_left
                      · simp only [Act.put, List.setIfInBounds_toArray, List.set_cons_zero, List.set_cons_succ, i64_w, i32_w]
                        rfl
                      refine pure_ (i := 9) (N := some 7) (v := ?_) (a' := ?_) #[true, true, true, true, true, true, true, true, true, true] rfl rfl (any_of HT_.out (by kernel_rfl)) (fun _ _ _ h => h) (Or.inl ⟨by rfl, ?_⟩) ?_ ?_
                      rotate_left
                      · intro w'
                        go_simp
                        with_reducible rfl
                      rotate_left
                      · simp only [Act.put, List.setIfInBounds_toArray, List.set_cons_zero, List.set_cons_succ, i64_w, i32_w]
                        rfl
                      refine done_ (done_of HT_.out (by kernel_rfl)) ?_
                      try go_wp2
                      go_roundg k2
                      case measure => have := HJ4.out; have := HK2.out; omega
                      case rel => exact ⟨(y351), ((rd_T30 t343 x8_2).f0), (wrap64 (x8_2 + 1)), (by first | rfl | (simp; done) | (simp [*]; done)), (by first | rfl | (simp; done) | (simp [*]; done)), H', ⟨by have := HJ4.out; have := HK2.out; omega⟩, ⟨by (with_reducible repeat (first | apply Kd.N_alloc | apply Kd.N_drewN | apply Kd.N_drew)); exact Kd.N_mono HO_5.out (fun _ hk => hk.2)⟩, ⟨by (with_reducible repeat (first | apply Kd.R_alloc | apply Kd.R_drewN | apply Kd.R_drew)); exact Kd.R_mono HO353.out (fun _ hk => trivial)⟩, ⟨by repeat (first | (with_reducible first | exact HB.out | apply below_alloc | apply pw_below_drewN | apply below_drew1) | exact HB.out)⟩⟩
                    · rw [if_neg c15] at H
                      exact absurd H (by simp)
                  · rw [if_neg c14] at H
                    exact absurd H (by simp)
                · rw [if_neg c12] at H
                  exact absurd H (by simp)
              · rw [if_neg c11] at H
                have c11b0 : decide (x8_2 < (t343.length : Int)) = false := decide_eq_false c11
                clear c11
                have H' := Aside0.mk H
                clear H
                obtain ⟨Ao21, co21, eo21⟩ := Kd.N_slice HO_5.out
                subst eo21
                go_wp2
                go_loopg [6, 7, 11] k2 (fun kq v6 v7 v11 w' => ∃ (x6_3 : List Int) (x7_3 : Int) (x11_3 : Int), v7 = .int .i64 x7_3 ∧ v11 = .int .i64 x11_3 ∧ Aside0 (repriselaw23_EventChain.l1 kq t343 x6_3 x7_3 x11_3 = some r) ∧ Aside0 (kq ≤ k2) ∧ Aside0 (Kd.N k30 30 w' w.heap.size (fun _ => True) (.slice Ao21 t343.length co21) t343) ∧ Aside0 (Kd.V (Kd.int .u8) 5 w' w.heap.size (fun k_ => some k_ ≠ ((.slice Ao21 t343.length co21) : Value).ownBlock) v6 x6_3) ∧ Aside0 (Below w.heap.size w w'))
                case atStart => exact ⟨(x6_2), (0), (0), (by first | rfl | (simp; done) | (simp [*]; done)), (by first | rfl | (simp; done) | (simp [*]; done)), H', ⟨Nat.le_refl _⟩, ⟨by (with_reducible repeat (first | apply Kd.N_alloc | apply Kd.N_drewN | apply Kd.N_drew)); exact Kd.N_mono HO_5.out (fun _ hk => trivial)⟩, ⟨Kd.R_V (by (with_reducible repeat (first | apply Kd.R_alloc | apply Kd.R_drewN | apply Kd.R_drew)); exact Kd.R_mono (Kd.R_apart' HO_6.out (Kd.N_typed HO_5.out) (by decide)) (fun _ hk => hk.2))⟩, ⟨by repeat (first | (with_reducible first | exact HB.out | apply below_alloc | apply pw_below_drewN | apply below_drew1) | exact HB.out)⟩⟩
                case round =>
                  clear H'
                  try clear c1
                  try clear p2
                  try clear c3
                  try clear p3
                  try clear q3
                  try clear hx3
                  try clear c4
                  try clear p6
                  try clear c7
                  try clear c7b0
                  try clear c7b1
                  try clear c8
                  try clear c11
                  try clear c11b0
                  try clear c12
                  try clear c12b0
                  try clear c14
                  try clear c14b0
                  try clear c14b1
                  try clear c15
                  try clear c17
                  try clear hx346_0
                  try clear hx346_1
                  try clear hx346_2
                  try clear hx346_3
                  try clear hx346_4
                  try clear hx354_0
                  try clear hx354_1
                  try clear hx354_2
                  try clear hx354_3
                  try clear hx354_4
                  try clear p2
                  try clear p346
                  try clear p354
                  try clear q346
                  try clear q354
                  obtain ⟨x6_3, x7_3, x11_3, rfl, rfl, HA, HK3, HO_5, HO_6, HB⟩ := hrel
                  cases gk with
                  | zero => exact absurd HA.out (by simp [repriselaw23_EventChain.l1])
                  | succ k3 =>
                    have H := HA.out
                    clear HA
                    simp only [repriselaw23_EventChain.l1] at H
                    by_cases c22 : x11_3 < (t343.length : Int)
                    · rw [if_pos c22] at H
                      have c22b0 : decide (x11_3 < (t343.length : Int)) = true := decide_eq_true c22
                      clear c22
                      replace H := Option.bind_eq_some_iff.mp H
                      obtain ⟨⟨t365, t366, t367, t370, t371, t372, t373⟩, A230, H⟩ := H
                      replace H : (if t373 = 0 then (if t372 > (x6_3.length : Int) then (none) else (if t372 < 1 then (none) else (if 0 ≤ x11_3 then ((event_Same.f ((rd_T30 t343 x11_3).f0) ((rd_T30 t343 x11_3).f1) ((rd_T30 t343 x11_3).f2) ((rd_T30 t343 x11_3).f3) ((rd_T30 t343 x11_3).f4) t365 t366 t367 t370 t371).bind fun t376 => (if t376 = true then (if 0 ≤ t372 then (if t372 ≤ (x6_3.length : Int) then (repriselaw23_EventChain.l1 k3 t343 (x6_3.drop (t372 : Int).toNat) t365 (wrap64 (x11_3 + 1))) else (none)) else (none)) else (none))) else (none)))) else (none)) = some r := H
                      have A23 := Aside0.mk A230
                      clear A230
                      by_cases c24 : t373 = 0
                      · rw [if_pos c24] at H
                        have c24b0 : (t373 == 0) = true := beq_iff_eq.mpr c24
                        have c24b1 : (t373 != 0) = false := bne_eq_false_iff_eq.mpr c24
                        clear c24
                        by_cases c25 : t372 > (x6_3.length : Int)
                        · rw [if_pos c25] at H
                          have c25b0 : decide ((x6_3.length : Int) < t372) = true := decide_eq_true c25
                          clear c25
                          exact absurd H (by simp)
                        · rw [if_neg c25] at H
                          have c25b0 : decide ((x6_3.length : Int) < t372) = false := decide_eq_false c25
                          clear c25
                          by_cases c26 : t372 < 1
                          · rw [if_pos c26] at H
                            have c26b0 : decide (t372 < 1) = true := decide_eq_true c26
                            clear c26
                            exact absurd H (by simp)
                          · rw [if_neg c26] at H
                            have c26b0 : decide (t372 < 1) = false := decide_eq_false c26
                            clear c26
                            by_cases c27 : 0 ≤ x11_3
                            · rw [if_pos c27] at H
                              have c27b0 : decide (0 ≤ x11_3) = true := decide_eq_true c27
                              clear c27
                              replace H := Option.bind_eq_some_iff.mp H
                              obtain ⟨t376, A280, H⟩ := H
                              replace H : (if t376 = true then (if 0 ≤ t372 then (if t372 ≤ (x6_3.length : Int) then (repriselaw23_EventChain.l1 k3 t343 (x6_3.drop (t372 : Int).toNat) t365 (wrap64 (x11_3 + 1))) else (none)) else (none)) else (none)) = some r := H
                              have A28 := Aside0.mk A280
                              clear A280
                              by_cases c29 : t376 = true
                              · subst c29
                                have H1 : (if 0 ≤ t372 then (if t372 ≤ (x6_3.length : Int) then (repriselaw23_EventChain.l1 k3 t343 (x6_3.drop (t372 : Int).toNat) t365 (wrap64 (x11_3 + 1))) else (none)) else (none)) = some r := by rw [if_pos rfl] at H; exact H
                                clear H
                                have H := H1
                                clear H1
                                by_cases c30 : 0 ≤ t372
                                · rw [if_pos c30] at H
                                  have c30b0 := eq_true c30
                                  have c30b1 : decide (0 ≤ t372) = true := decide_eq_true c30
                                  clear c30
                                  by_cases c31 : t372 ≤ (x6_3.length : Int)
                                  · rw [if_pos c31] at H
                                    have c31b0 := eq_true c31
                                    have c31b1 : decide (t372 ≤ (x6_3.length : Int)) = true := decide_eq_true c31
                                    clear c31
                                    obtain ⟨y377, hy377⟩ : ∃ y_ : List Int, y_ = (x6_3.drop (t372 : Int).toNat) := ⟨_, rfl⟩
                                    replace H : (repriselaw23_EventChain.l1 k3 t343 y377 t365 (wrap64 (x11_3 + 1))) = some r := by first | (rw [hy377]; with_reducible exact H) | (have H2_ := (Option.bind_some _ _).symm.trans H; rw [hy377]; with_reducible exact H2_) | (have H2_ := (Option.bind_some _ _).symm.trans H; with_reducible exact H2_) | with_reducible exact H | (rw [hy377]; exact H) | exact H
                                    have Ny377 := Aside0.mk hy377
                                    clear hy377
                                    have H' := Aside0.mk H
                                    clear H
                                    obtain ⟨Ao32, co32, eo32⟩ := Kd.V_slice HO_6.out
                                    subst eo32
                                    try go_wp2_with (first | ((with_reducible refine gate_callee (f := 14) rfl ?_); refine goesL_ (some 65) rfl rfl Try.func14 (by kernel_rfl) rfl #[.int .i64 x7_3, .slice Ao32 x6_3.length co32] rfl (by (try simp only [List.map_toArray, List.map_cons, List.map_nil]); first | done | rfl | (simp only [List.length_drop, List.length_take]; rfl)) ?_; (with_reducible refine (event_Read.calls k3 x7_3 _ _ x6_3 t365 t366 t367 t370 t371 t372 t373 _ ?side1 ?side2 A23.out).mono ?_); (case side1 => repeat (first | exact (Kd.V_reads' HO_6.out).2.2 | (with_reducible refine Kd.C_alloc ?_ _) | (with_reducible refine Kd.C_drewN ?_ _) | (with_reducible refine Kd.C_drew ?_))); (case side2 => exact (Kd.V_reads' HO_6.out).2.1); rintro e w33 ⟨v368, rfl, ho0, hb⟩; refine ⟨_, rfl, ?_⟩; have n0_ := Aside0.mk (Kd.N_elder' (by (with_reducible repeat (first | apply Kd.N_alloc | apply Kd.N_drewN | apply Kd.N_drew)); exact HO_5.out) (Kd.R_base ho0) hb); have n1_ := Aside0.mk (Kd.V_elder' (by (with_reducible repeat (first | apply Kd.V_alloc | apply Kd.V_drewN | apply Kd.V_drew)); exact HO_6.out) (Kd.R_base ho0) hb); have n2_ := Aside0.mk (Kd.R_lower ho0 (below_size (by repeat (first | (with_reducible first | exact HB.out | apply below_alloc | apply pw_below_drewN | apply below_drew1) | exact HB.out)))); have n3_ := Aside0.mk (below_step (by repeat (first | (with_reducible first | exact HB.out | apply below_alloc | apply pw_below_drewN | apply below_drew1) | exact HB.out)) hb); clear HO_5; clear HO_6; clear HB; have HO_5 := n0_; have HO_6 := n1_; have HO369 := n2_; have HB := n3_; clear n0_ n1_ n2_ n3_; (try clear hb); (try clear hb2); (try clear hk); (try clear hi); (try clear ho0)) | ((with_reducible refine gate_dst (N := 12) rfl ?_); (try (refine gate_guard (by rfl) ?_; dsimp only)); refine box_event ?hg (N := 12) ?hd (cs := #[.int .i64 0, .int .i64 0, .slice none 0 0, .int .i64 0, .int .i64 0]) (t := 30) ?hr ?_; (case hd => rfl); (case hg => rfl); (case hr => first | (go_simp; done) | (go_simp; rfl)); intro gb374 hg w34 hbox hb; have n0_ := Aside0.mk (Kd.N_below (Kd.N_elderB (by (with_reducible repeat (first | apply Kd.N_alloc | apply Kd.N_drewN | apply Kd.N_drew)); exact HO_5.out) gb374 (Nat.le_of_eq hg.symm)) hb); have n1_ := Aside0.mk (Kd.V_below (Kd.V_elderB (by (with_reducible repeat (first | apply Kd.V_alloc | apply Kd.V_drewN | apply Kd.V_drew)); exact HO_6.out) gb374 (Nat.le_of_eq hg.symm)) hb); have n2_ := Aside0.mk (Kd.R_below (by (with_reducible repeat (first | apply Kd.R_alloc | apply Kd.R_drewN | apply Kd.R_drew)); exact HO369.out) hb); have n3_ := Aside0.mk (below_step (by repeat (first | (with_reducible first | exact HB.out | apply below_alloc | apply pw_below_drewN | apply below_drew1) | exact HB.out)) hb); have n4_ := Aside0.mk (hbox); have n5_ := Aside0.mk ((by rw [hg]; exact (below_size (by repeat (first | (with_reducible first | exact HB.out | apply below_alloc | apply pw_below_drewN | apply below_drew1) | exact HB.out))) : w.heap.size ≤ gb374)); have n6_ := Aside0.mk ((by rw [hg]; exact (below_size (by repeat (first | (with_reducible first | exact HB.out | apply below_alloc | apply pw_below_drewN | apply below_drew1) | exact HB.out))) : w.heap.size ≤ gb374)); clear HO_5; clear HO_6; clear HO369; clear HB; have HO_5 := n0_; have HO_6 := n1_; have HO369 := n2_; have HB := n3_; have BK374 := n4_; have GW374 := n5_; have GE374 := n6_; clear n0_ n1_ n2_ n3_ n4_ n5_ n6_; clear hb hbox hg; have hcz35_0 : w34.cell? ⟨gb374, 0, none⟩ = some (.int .i64 0) := (blk_cell BK374.out 0).trans rfl; have hcz35_1 : w34.cell? ⟨gb374, 1, none⟩ = some (.int .i64 0) := (blk_cell BK374.out 1).trans rfl; have hcz35_2 : w34.cell? ⟨gb374, 2, none⟩ = some (.slice none 0 0) := (blk_cell BK374.out 2).trans rfl; have hcz35_3 : w34.cell? ⟨gb374, 3, none⟩ = some (.int .i64 0) := (blk_cell BK374.out 3).trans rfl; have hcz35_4 : w34.cell? ⟨gb374, 4, none⟩ = some (.int .i64 0) := (blk_cell BK374.out 4).trans rfl; have hfz35_0 := blk_frozen BK374.out 0; have hfz35_1 := blk_frozen BK374.out 1; have hfz35_2 := blk_frozen BK374.out 2; have hfz35_3 := blk_frozen BK374.out 3; have hfz35_4 := blk_frozen BK374.out 4; obtain ⟨Ao36, co36, eo36⟩ := Kd.R_slice HO369.out; subst eo36))
                                    have n0_ : Aside0 (Kd.N k30 30 (((((w34.setCell ⟨gb374, 0, none⟩ (.int .i64 t365)).setCell ⟨gb374, 1, none⟩ (.int .i64 t366)).setCell ⟨gb374, 2, none⟩ (.slice Ao36 t367.length co36)).setCell ⟨gb374, 3, none⟩ (.int .i64 t370)).setCell ⟨gb374, 4, none⟩ (.int .i64 t371)) w.heap.size (fun k_ => some k_ ≠ (.slice Ao36 t367.length co36 : Value).ownBlock ∧ k_ ≠ gb374) (.slice Ao21 t343.length co21) t343) := ⟨by (with_reducible repeat (first | apply Kd.N_alloc | apply Kd.N_drewN | apply Kd.N_drew)); exact Kd.N_mono (Kd.N_far (p := ⟨gb374, 4, none⟩) (Kd.N_far (p := ⟨gb374, 3, none⟩) (Kd.N_far (p := ⟨gb374, 2, none⟩) (Kd.N_far (p := ⟨gb374, 1, none⟩) (Kd.N_far (p := ⟨gb374, 0, none⟩) (Kd.N_mono HO_5.out (fun k_ hk => (⟨hk, hk.2⟩ : _ ∧ k_ ≠ gb374))) (fun _ hk => hk.2) (.int .i64 t365)) (fun _ hk => hk.2) (.int .i64 t366)) (fun _ hk => hk.2) (.slice Ao36 t367.length co36)) (fun _ hk => hk.2) (.int .i64 t370)) (fun _ hk => hk.2) (.int .i64 t371)) (fun _ hk => ⟨hk.1.1.2, hk.1.2⟩)⟩
                                    have n1_ : Aside0 (Kd.V (Kd.int .u8) 5 (((((w34.setCell ⟨gb374, 0, none⟩ (.int .i64 t365)).setCell ⟨gb374, 1, none⟩ (.int .i64 t366)).setCell ⟨gb374, 2, none⟩ (.slice Ao36 t367.length co36)).setCell ⟨gb374, 3, none⟩ (.int .i64 t370)).setCell ⟨gb374, 4, none⟩ (.int .i64 t371)) w.heap.size (fun k_ => some k_ ≠ (.slice Ao21 t343.length co21 : Value).ownBlock ∧ some k_ ≠ (.slice Ao36 t367.length co36 : Value).ownBlock ∧ k_ ≠ gb374) (.slice Ao32 x6_3.length co32) x6_3) := ⟨by (with_reducible repeat (first | apply Kd.V_alloc | apply Kd.V_drewN | apply Kd.V_drew)); exact Kd.V_mono (Kd.V_far (p := ⟨gb374, 4, none⟩) (Kd.V_far (p := ⟨gb374, 3, none⟩) (Kd.V_far (p := ⟨gb374, 2, none⟩) (Kd.V_far (p := ⟨gb374, 1, none⟩) (Kd.V_far (p := ⟨gb374, 0, none⟩) (Kd.V_mono HO_6.out (fun k_ hk => (⟨hk, hk.2⟩ : _ ∧ k_ ≠ gb374))) (fun _ hk => hk.2) (.int .i64 t365)) (fun _ hk => hk.2) (.int .i64 t366)) (fun _ hk => hk.2) (.slice Ao36 t367.length co36)) (fun _ hk => hk.2) (.int .i64 t370)) (fun _ hk => hk.2) (.int .i64 t371)) (fun _ hk => ⟨hk.1.1.1, ⟨hk.1.1.2, hk.1.2⟩⟩)⟩
                                    have n2_ : Aside0 (Kd.R (Kd.int .u8) 5 (((((w34.setCell ⟨gb374, 0, none⟩ (.int .i64 t365)).setCell ⟨gb374, 1, none⟩ (.int .i64 t366)).setCell ⟨gb374, 2, none⟩ (.slice Ao36 t367.length co36)).setCell ⟨gb374, 3, none⟩ (.int .i64 t370)).setCell ⟨gb374, 4, none⟩ (.int .i64 t371)) w.heap.size (fun _ => True) (.slice Ao36 t367.length co36) t367) := ⟨by (with_reducible repeat (first | apply Kd.R_alloc | apply Kd.R_drewN | apply Kd.R_drew)); exact Kd.R_mono (Kd.R_far (p := ⟨gb374, 4, none⟩) (Kd.R_far (p := ⟨gb374, 3, none⟩) (Kd.R_far (p := ⟨gb374, 2, none⟩) (Kd.R_far (p := ⟨gb374, 1, none⟩) (Kd.R_far (p := ⟨gb374, 0, none⟩) (Kd.R_types HO369.out BK374.out (by decide)) (fun _ hk => hk.2) (.int .i64 t365)) (fun _ hk => hk.2) (.int .i64 t366)) (fun _ hk => hk.2) (.slice Ao36 t367.length co36)) (fun _ hk => hk.2) (.int .i64 t370)) (fun _ hk => hk.2) (.int .i64 t371)) (fun _ hk => trivial)⟩
                                    have n3_ : Aside0 ((((((w34.setCell ⟨gb374, 0, none⟩ (.int .i64 t365)).setCell ⟨gb374, 1, none⟩ (.int .i64 t366)).setCell ⟨gb374, 2, none⟩ (.slice Ao36 t367.length co36)).setCell ⟨gb374, 3, none⟩ (.int .i64 t370)).setCell ⟨gb374, 4, none⟩ (.int .i64 t371)).heap[gb374]? = some (.cells #[.int .i64 t365, .int .i64 t366, .slice Ao36 t367.length co36, .int .i64 t370, .int .i64 t371] 30 (0, 0))) := ⟨by (with_reducible repeat (first | refine blk_drewN ?_ _ | refine blk_drew ?_ | refine blk_alloc ?_ _)); refine blk_put (cs := #[.int .i64 t365, .int .i64 t366, .slice Ao36 t367.length co36, .int .i64 t370, .int .i64 0]) ?_ 4 _ rfl; (with_reducible repeat (first | refine blk_drewN ?_ _ | refine blk_drew ?_ | refine blk_alloc ?_ _)); refine blk_put (cs := #[.int .i64 t365, .int .i64 t366, .slice Ao36 t367.length co36, .int .i64 0, .int .i64 0]) ?_ 3 _ rfl; (with_reducible repeat (first | refine blk_drewN ?_ _ | refine blk_drew ?_ | refine blk_alloc ?_ _)); refine blk_put (cs := #[.int .i64 t365, .int .i64 t366, .slice none 0 0, .int .i64 0, .int .i64 0]) ?_ 2 _ rfl; (with_reducible repeat (first | refine blk_drewN ?_ _ | refine blk_drew ?_ | refine blk_alloc ?_ _)); refine blk_put (cs := #[.int .i64 t365, .int .i64 0, .slice none 0 0, .int .i64 0, .int .i64 0]) ?_ 1 _ rfl; (with_reducible repeat (first | refine blk_drewN ?_ _ | refine blk_drew ?_ | refine blk_alloc ?_ _)); refine blk_put (cs := #[.int .i64 0, .int .i64 0, .slice none 0 0, .int .i64 0, .int .i64 0]) ?_ 0 _ rfl; (with_reducible repeat (first | refine blk_drewN ?_ _ | refine blk_drew ?_ | refine blk_alloc ?_ _)); exact BK374.out⟩
                                    have n4_ : Aside0 (Below w.heap.size w (((((w34.setCell ⟨gb374, 0, none⟩ (.int .i64 t365)).setCell ⟨gb374, 1, none⟩ (.int .i64 t366)).setCell ⟨gb374, 2, none⟩ (.slice Ao36 t367.length co36)).setCell ⟨gb374, 3, none⟩ (.int .i64 t370)).setCell ⟨gb374, 4, none⟩ (.int .i64 t371))) := ⟨by repeat (first | (with_reducible first | exact HB.out | apply below_alloc | apply pw_below_drewN | apply below_drew1 | refine below_set ?_ GE374.out) | exact HB.out)⟩
                                    (try clear HO_5)
                                    (try clear HO_6)
                                    (try clear HO369)
                                    (try clear BK374)
                                    (try clear HB)
                                    generalize (((((w34.setCell ⟨gb374, 0, none⟩ (.int .i64 t365)).setCell ⟨gb374, 1, none⟩ (.int .i64 t366)).setCell ⟨gb374, 2, none⟩ (.slice Ao36 t367.length co36)).setCell ⟨gb374, 3, none⟩ (.int .i64 t370)).setCell ⟨gb374, 4, none⟩ (.int .i64 t371)) = w37 at n0_ n1_ n2_ n3_ n4_ ⊢
                                    have HO_5 := n0_
                                    have HO_6 := n1_
                                    have HO369 := n2_
                                    have BK374 := n3_
                                    have HB := n4_
                                    clear n0_ n1_ n2_ n3_ n4_
                                    have n0_ := Aside0.mk (Kd.N_drew HO_5.out)
                                    have n1_ := Aside0.mk (Kd.V_drew HO_6.out)
                                    have n2_ := Aside0.mk (Kd.R_drew HO369.out)
                                    have n3_ := Aside0.mk (blk_drew BK374.out)
                                    have n4_ := Aside0.mk (below_drew1 HB.out)
                                    clear HO_5
                                    clear HO_6
                                    clear HO369
                                    clear BK374
                                    clear HB
                                    have HO_5 := n0_
                                    have HO_6 := n1_
                                    have HO369 := n2_
                                    have BK374 := n3_
                                    have HB := n4_
                                    clear n0_ n1_ n2_ n3_ n4_
                                    have p375 : 0 ≤ (x11_3 : Int) := of_decide_eq_true (by first | (with_reducible assumption) | assumption)
                                    have q375 : x11_3 < (t343.length : Int) := of_decide_eq_true (by first | (with_reducible assumption) | assumption)
                                    obtain ⟨ad375, A375_2, c375_2, e375, hx375_0, hx375_1, hx375_2, hx375_3, hx375_4, hl375_2, hi375_2⟩ := at_T30 (Kd.N_reads' HO_5.out).2.2 x11_3 p375 q375
                                    cases e375
                                    obtain ⟨ce375, hce375, hMe375, hcc375⟩ := Kd.N_get HO_5.out z30 x11_3 p375 (by first | exact q375 | exact of_decide_eq_true (by first | (with_reducible assumption) | assumption) | (have e_ := (Kd.N_reads' HO_5.out).1; omega))
                                    obtain ⟨ua375_2, uc375_2, rfl, ul375_2, ge375_2⟩ := k30_openF hMe375
                                    have hv375_2 := hcc375 2 _ rfl
                                    rw [add_field _ _ 2 (by omega)] at hv375_2
                                    replace hv375_2 := Option.some.inj (hv375_2.symm.trans hx375_2)
                                    injection hv375_2 with hva_ hvn_ hvc_
                                    rw [hva_] at ge375_2
                                    rw [hvc_] at ul375_2
                                    have HL375_2 := Aside0.mk (show Kd.V (Kd.int .u8) 5 _ w.heap.size _ _ ((rd_T30 t343 x11_3).f2) from Kd.V_mk ul375_2 ge375_2)
                                    clear hva_ hvn_ hvc_ ge375_2 ul375_2
                                    clear hcc375 hce375
                                    have HR375_2 := Aside0.mk hi375_2
                                    have HC375_2 := Aside0.mk hl375_2
                                    clear hi375_2 hl375_2
                                    replace p375 := eq_true p375
                                    replace q375 := eq_true q375
                                    refine start_ (n := 21) (S := fun w' => w'.cell? ⟨gb374, 0, none⟩ = some (.int .i64 t365) ∧ w'.cell? ⟨gb374, 1, none⟩ = some (.int .i64 t366) ∧ w'.cell? ⟨gb374, 2, none⟩ = some (.slice Ao36 t367.length co36) ∧ w'.cell? ⟨gb374, 3, none⟩ = some (.int .i64 t370) ∧ w'.cell? ⟨gb374, 4, none⟩ = some (.int .i64 t371) ∧ w'.cell? (ad375.add ((x11_3).toNat * 5)) = some (.int .i64 ((rd_T30 t343 x11_3).f0)) ∧ w'.cell? ⟨(ad375.add ((x11_3).toNat * 5)).block, (ad375.add ((x11_3).toNat * 5)).off + 1, none⟩ = some (.int .i64 ((rd_T30 t343 x11_3).f1)) ∧ w'.cell? ⟨(ad375.add ((x11_3).toNat * 5)).block, (ad375.add ((x11_3).toNat * 5)).off + 2, none⟩ = some (.slice A375_2 ((rd_T30 t343 x11_3).f2).length c375_2) ∧ w'.cell? ⟨(ad375.add ((x11_3).toNat * 5)).block, (ad375.add ((x11_3).toNat * 5)).off + 3, none⟩ = some (.int .i64 ((rd_T30 t343 x11_3).f3)) ∧ w'.cell? ⟨(ad375.add ((x11_3).toNat * 5)).block, (ad375.add ((x11_3).toNat * 5)).off + 4, none⟩ = some (.int .i64 ((rd_T30 t343 x11_3).f4))) (ds := []) #[false, false, false, false, false, false, false, false, false, false, false, false, false, false, false, false, false, false, false, false, false] (by kernel_rfl) rfl rfl ⟨(blk_cell BK374.out 0).trans rfl, (blk_cell BK374.out 1).trans rfl, (blk_cell BK374.out 2).trans rfl, (blk_cell BK374.out 3).trans rfl, (blk_cell BK374.out 4).trans rfl, hx375_0, hx375_1, hx375_2, hx375_3, hx375_4⟩ (fun hHeld => ?_); refine with_tabW repriselaw23_EventChain.tab20 repriselaw23_EventChain.bits20 (fun HT_ HW_ => ?_)
                                    generalize w37.drew = w38 at HO_5 HO_6 HO369 BK374 HB HL375_2 HR375_2 hx375_0 hx375_1 hx375_2 hx375_3 hx375_4 hHeld ⊢
                                    refine pure_ (i := 0) (N := some 69) (v := ?_) (a' := ?_) #[true, false, false, false, false, false, false, false, false, false, false, false, false, false, false, false, false, false, false, false, false] rfl rfl (any_of HT_.out (by kernel_rfl)) (fun _ _ _ h => h) (Or.inl ⟨by rfl, ?_⟩) ?_ ?_
                                    rotate_left
                                    · intro w'
                                      go_simp
                                      with_reducible rfl
                                    rotate_left
                                    · simp only [Act.put, List.setIfInBounds_toArray, List.set_cons_zero, List.set_cons_succ, i64_w, i32_w]
                                      rfl
                                    refine pure_ (i := 1) (N := some 70) (v := ?_) (a' := ?_) #[true, true, false, false, false, false, false, false, false, false, false, false, false, false, false, false, false, false, false, false, false] rfl rfl (any_of HT_.out (by kernel_rfl)) (fun _ _ _ h => h) (Or.inl ⟨by rfl, ?_⟩) ?_ ?_
                                    rotate_left
                                    · intro w'
                                      go_simp
                                      with_reducible rfl
                                    rotate_left
                                    · simp only [Act.put, List.setIfInBounds_toArray, List.set_cons_zero, List.set_cons_succ, i64_w, i32_w]
                                      rfl
                                    refine pure_ (i := 2) (N := some 71) (v := ?_) (a' := ?_) #[true, true, true, false, false, false, false, false, false, false, false, false, false, false, false, false, false, false, false, false, false] rfl rfl (any_of HT_.out (by kernel_rfl)) (fun _ _ _ h => h) (Or.inl ⟨by rfl, ?_⟩) ?_ ?_
                                    rotate_left
                                    · intro w'
                                      go_simp
                                      with_reducible rfl
                                    rotate_left
                                    · simp only [Act.put, List.setIfInBounds_toArray, List.set_cons_zero, List.set_cons_succ, i64_w, i32_w]
                                      rfl
                                    refine pure_ (i := 3) (N := some 72) (v := ?_) (a' := ?_) #[true, true, true, true, false, false, false, false, false, false, false, false, false, false, false, false, false, false, false, false, false] rfl rfl (any_of HT_.out (by kernel_rfl)) (fun _ _ _ h => h) (Or.inl ⟨by rfl, ?_⟩) ?_ ?_
                                    rotate_left
                                    · intro w'
                                      go_simp
                                      with_reducible rfl
                                    rotate_left
                                    · simp only [Act.put, List.setIfInBounds_toArray, List.set_cons_zero, List.set_cons_succ, i64_w, i32_w]
                                      rfl
                                    refine pure_ (i := 4) (N := some 73) (v := ?_) (a' := ?_) #[true, true, true, true, true, false, false, false, false, false, false, false, false, false, false, false, false, false, false, false, false] rfl rfl (any_of HT_.out (by kernel_rfl)) (fun _ _ _ h => h) (Or.inl ⟨by rfl, ?_⟩) ?_ ?_
                                    rotate_left
                                    · intro w'
                                      go_simp
                                      with_reducible rfl
                                    rotate_left
                                    · simp only [Act.put, List.setIfInBounds_toArray, List.set_cons_zero, List.set_cons_succ, i64_w, i32_w]
                                      rfl
                                    refine pure_ (i := 5) (N := some 74) (v := ?_) (a' := ?_) #[true, true, true, true, true, true, false, false, false, false, false, false, false, false, false, false, false, false, false, false, false] rfl rfl (any_of HT_.out (by kernel_rfl)) (fun _ _ _ h => h) (Or.inl ⟨by rfl, ?_⟩) ?_ ?_
                                    rotate_left
                                    · intro w'
                                      go_simp
                                      with_reducible rfl
                                    rotate_left
                                    · simp only [Act.put, List.setIfInBounds_toArray, List.set_cons_zero, List.set_cons_succ, i64_w, i32_w]
                                      rfl
                                    refine pure_ (i := 6) (N := some 75) (v := ?_) (a' := ?_) #[true, true, true, true, true, true, true, false, false, false, false, false, false, false, false, false, false, false, false, false, false] rfl rfl (any_of HT_.out (by kernel_rfl)) (fun _ _ _ h => h) (Or.inl ⟨by rfl, ?_⟩) ?_ ?_
                                    rotate_left
                                    · intro w'
                                      go_simp
                                      with_reducible rfl
                                    rotate_left
                                    · simp only [Act.put, List.setIfInBounds_toArray, List.set_cons_zero, List.set_cons_succ, i64_w, i32_w]
                                      rfl
                                    refine pure_ (i := 7) (N := some 76) (v := ?_) (a' := ?_) #[true, true, true, true, true, true, true, true, false, false, false, false, false, false, false, false, false, false, false, false, false] rfl rfl (any_of HT_.out (by kernel_rfl)) (fun _ _ _ h => h) (Or.inl ⟨by rfl, ?_⟩) ?_ ?_
                                    rotate_left
                                    · intro w'
                                      go_simp
                                      with_reducible rfl
                                    rotate_left
                                    · simp only [Act.put, List.setIfInBounds_toArray, List.set_cons_zero, List.set_cons_succ, i64_w, i32_w]
                                      rfl
                                    refine pure_ (i := 8) (N := some 77) (v := ?_) (a' := ?_) #[true, true, true, true, true, true, true, true, true, false, false, false, false, false, false, false, false, false, false, false, false] rfl rfl (any_of HT_.out (by kernel_rfl)) (fun _ _ _ h => h) (Or.inl ⟨by rfl, ?_⟩) ?_ ?_
                                    rotate_left
                                    · intro w'
                                      go_simp
                                      with_reducible rfl
                                    rotate_left
                                    · simp only [Act.put, List.setIfInBounds_toArray, List.set_cons_zero, List.set_cons_succ, i64_w, i32_w]
                                      rfl
                                    refine pure_ (i := 9) (N := some 78) (v := ?_) (a' := ?_) #[true, true, true, true, true, true, true, true, true, true, false, false, false, false, false, false, false, false, false, false, false] rfl rfl (any_of HT_.out (by kernel_rfl)) (fun _ _ _ h => h) (Or.inl ⟨by rfl, ?_⟩) ?_ ?_
                                    rotate_left
                                    · intro w'
                                      go_simp
                                      with_reducible rfl
                                    rotate_left
                                    · simp only [Act.put, List.setIfInBounds_toArray, List.set_cons_zero, List.set_cons_succ, i64_w, i32_w]
                                      rfl
                                    refine pure_ (i := 10) (N := some 79) (v := ?_) (a' := ?_) #[true, true, true, true, true, true, true, true, true, true, true, false, false, false, false, false, false, false, false, false, false] rfl rfl (any_of HT_.out (by kernel_rfl)) (fun _ _ _ h => h) (Or.inl ⟨by rfl, ?_⟩) ?_ ?_
                                    rotate_left
                                    · intro w'
                                      go_simp
                                      with_reducible rfl
                                    rotate_left
                                    · simp only [Act.put, List.setIfInBounds_toArray, List.set_cons_zero, List.set_cons_succ, i64_w, i32_w]
                                      rfl
                                    refine pure_ (i := 11) (N := some 80) (v := ?_) (a' := ?_) #[true, true, true, true, true, true, true, true, true, true, true, true, false, false, false, false, false, false, false, false, false] rfl rfl (any_of HT_.out (by kernel_rfl)) (fun _ _ _ h => h) (Or.inl ⟨by rfl, ?_⟩) ?_ ?_
                                    rotate_left
                                    · intro w'
                                      go_simp
                                      with_reducible rfl
                                    rotate_left
                                    · simp only [Act.put, List.setIfInBounds_toArray, List.set_cons_zero, List.set_cons_succ, i64_w, i32_w]
                                      rfl
                                    refine pure_ (i := 12) (N := some 81) (v := ?_) (a' := ?_) #[true, true, true, true, true, true, true, true, true, true, true, true, true, false, false, false, false, false, false, false, false] rfl rfl (any_of HT_.out (by kernel_rfl)) (fun _ _ _ h => h) (Or.inl ⟨by rfl, ?_⟩) ?_ ?_
                                    rotate_left
                                    · intro w'
                                      go_simp
                                      with_reducible rfl
                                    rotate_left
                                    · simp only [Act.put, List.setIfInBounds_toArray, List.set_cons_zero, List.set_cons_succ, i64_w, i32_w]
                                      rfl
                                    refine pure_ (i := 13) (N := some 82) (v := ?_) (a' := ?_) #[true, true, true, true, true, true, true, true, true, true, true, true, true, true, false, false, false, false, false, false, false] rfl rfl (any_of HT_.out (by kernel_rfl)) (fun _ _ _ h => h) (Or.inl ⟨by rfl, ?_⟩) ?_ ?_
                                    rotate_left
                                    · intro w'
                                      go_simp
                                      with_reducible rfl
                                    rotate_left
                                    · simp only [Act.put, List.setIfInBounds_toArray, List.set_cons_zero, List.set_cons_succ, i64_w, i32_w]
                                      rfl
                                    refine pure_ (i := 14) (N := some 83) (v := ?_) (a' := ?_) #[true, true, true, true, true, true, true, true, true, true, true, true, true, true, true, false, false, false, false, false, false] rfl rfl (any_of HT_.out (by kernel_rfl)) (fun _ _ _ h => h) (Or.inl ⟨by rfl, ?_⟩) ?_ ?_
                                    rotate_left
                                    · intro w'
                                      go_simp
                                      with_reducible rfl
                                    rotate_left
                                    · simp only [Act.put, List.setIfInBounds_toArray, List.set_cons_zero, List.set_cons_succ, i64_w, i32_w]
                                      rfl
                                    refine pure_ (i := 15) (N := some 84) (v := ?_) (a' := ?_) #[true, true, true, true, true, true, true, true, true, true, true, true, true, true, true, true, false, false, false, false, false] rfl rfl (any_of HT_.out (by kernel_rfl)) (fun _ _ _ h => h) (Or.inl ⟨by rfl, ?_⟩) ?_ ?_
                                    rotate_left
                                    · intro w'
                                      go_simp
                                      with_reducible rfl
                                    rotate_left
                                    · simp only [Act.put, List.setIfInBounds_toArray, List.set_cons_zero, List.set_cons_succ, i64_w, i32_w]
                                      rfl
                                    refine take_ (i := 16) (N := some 85) (v := ?_) (a' := ?_) #[true, true, true, true, true, true, true, true, true, true, true, true, true, true, true, true, true, false, false, false, false] rfl rfl (take_ofW HT_.out HW_.out (by kernel_rfl)) (fun _ _ _ h => h) (Or.inl ⟨by rfl, ?_⟩) hHeld ?_ ?_
                                    rotate_left
                                    · rintro w' ⟨s0, s1, s2, s3, s4, s5, s6, s7, s8, s9⟩
                                      go_simp
                                      with_reducible rfl
                                    rotate_left
                                    · simp only [Act.put, List.setIfInBounds_toArray, List.set_cons_zero, List.set_cons_succ, i64_w, i32_w]
                                      rfl
                                    refine take_ (i := 17) (N := some 86) (v := ?_) (a' := ?_) #[true, true, true, true, true, true, true, true, true, true, true, true, true, true, true, true, true, true, false, false, false] rfl rfl (take_ofW HT_.out HW_.out (by kernel_rfl)) (fun _ _ _ h => h) (Or.inl ⟨by rfl, ?_⟩) hHeld ?_ ?_
                                    rotate_left
                                    · rintro w' ⟨s0, s1, s2, s3, s4, s5, s6, s7, s8, s9⟩
                                      go_simp
                                      with_reducible rfl
                                    rotate_left
                                    · simp only [Act.put, List.setIfInBounds_toArray, List.set_cons_zero, List.set_cons_succ, i64_w, i32_w]
                                      rfl
                                    refine one_ (i := 18) (N := some 87) #[true, true, true, true, true, true, true, true, true, true, true, true, true, true, true, true, true, true, true, false, false] rfl rfl (one_of HT_.out (by kernel_rfl)) (by decide) (fun K hK => ?_)
                                    refine goes_ Try.func18 (by kernel_rfl) rfl #[.agg #[.int .i64 ((rd_T30 t343 x11_3).f0), .int .i64 ((rd_T30 t343 x11_3).f1), .slice A375_2 ((rd_T30 t343 x11_3).f2).length c375_2, .int .i64 ((rd_T30 t343 x11_3).f3), .int .i64 ((rd_T30 t343 x11_3).f4)], .agg #[.int .i64 t365, .int .i64 t366, .slice Ao36 t367.length co36, .int .i64 t370, .int .i64 t371]] (by rfl) rfl rfl (by (try simp only [List.map_toArray, List.map_cons, List.map_nil]); first | done | rfl | (simp only [List.length_drop, List.length_take]; rfl)) ?_
                                    with_reducible refine (event_Same.calls ((rd_T30 t343 x11_3).f0) ((rd_T30 t343 x11_3).f1) _ _ ((rd_T30 t343 x11_3).f2) ((rd_T30 t343 x11_3).f3) ((rd_T30 t343 x11_3).f4) t365 t366 _ _ t367 t370 t371 true _ ?side1 ?side2 ?side3 ?side4 A28.out).mono ?_
                                    (case side1 => repeat (first | exact (by repeat (first | (with_reducible exact HR375_2.out) | (with_reducible refine Kd.C_alloc ?_ _) | (with_reducible refine Kd.C_drewN ?_ _) | (with_reducible refine Kd.C_drew ?_) | exact HR375_2.out)) | (with_reducible refine Kd.C_alloc ?_ _) | (with_reducible refine Kd.C_drewN ?_ _) | (with_reducible refine Kd.C_drew ?_)))
                                    (case side2 => exact HC375_2.out)
                                    (case side3 => repeat (first | exact (Kd.R_reads' HO369.out).2.2 | (with_reducible refine Kd.C_alloc ?_ _) | (with_reducible refine Kd.C_drewN ?_ _) | (with_reducible refine Kd.C_drew ?_)))
                                    (case side4 => exact (Kd.R_reads' HO369.out).2.1)
                                    rintro e w39 ⟨rfl, hb⟩
                                    have HS5_ := (hb.cell (World.block_lt_of_cell? _ _ (hHeld.2.2.2.2.2.1))).trans (hHeld.2.2.2.2.2.1)
                                    have HS6_ := (hb.cell (World.block_lt_of_cell? _ _ (hHeld.2.2.2.2.2.2.1))).trans (hHeld.2.2.2.2.2.2.1)
                                    have HS7_ := (hb.cell (World.block_lt_of_cell? _ _ (hHeld.2.2.2.2.2.2.2.1))).trans (hHeld.2.2.2.2.2.2.2.1)
                                    have HS8_ := (hb.cell (World.block_lt_of_cell? _ _ (hHeld.2.2.2.2.2.2.2.2.1))).trans (hHeld.2.2.2.2.2.2.2.2.1)
                                    have HS9_ := (hb.cell (World.block_lt_of_cell? _ _ (hHeld.2.2.2.2.2.2.2.2.2))).trans (hHeld.2.2.2.2.2.2.2.2.2)
                                    refine ⟨_, rfl, ?_⟩
                                    have n0_ := Aside0.mk (Kd.N_below (by (with_reducible repeat (first | apply Kd.N_alloc | apply Kd.N_drewN | apply Kd.N_drew)); exact HO_5.out) hb)
                                    have n1_ := Aside0.mk (Kd.V_below (by (with_reducible repeat (first | apply Kd.V_alloc | apply Kd.V_drewN | apply Kd.V_drew)); exact HO_6.out) hb)
                                    have n2_ := Aside0.mk (Kd.R_below (by (with_reducible repeat (first | apply Kd.R_alloc | apply Kd.R_drewN | apply Kd.R_drew)); exact HO369.out) hb)
                                    have n3_ := Aside0.mk (Kd.V_below (by (with_reducible repeat (first | apply Kd.V_alloc | apply Kd.V_drewN | apply Kd.V_drew)); exact HL375_2.out) hb)
                                    have n4_ := Aside0.mk (blk_below (g := gb374) (o := .cells #[.int .i64 t365, .int .i64 t366, .slice Ao36 t367.length co36, .int .i64 t370, .int .i64 t371] 30 (0, 0)) (by (with_reducible repeat (first | refine blk_drewN ?_ _ | refine blk_drew ?_ | refine blk_alloc ?_ _)); exact BK374.out) hb)
                                    have n5_ := Aside0.mk (Kd.C_below (by repeat (first | (with_reducible exact HR375_2.out) | (with_reducible refine Kd.C_alloc ?_ _) | (with_reducible refine Kd.C_drewN ?_ _) | (with_reducible refine Kd.C_drew ?_) | exact HR375_2.out)) hb)
                                    have n6_ := Aside0.mk (below_step (by repeat (first | (with_reducible first | exact HB.out | apply below_alloc | apply pw_below_drewN | apply below_drew1 | refine below_set ?_ GE374.out) | exact HB.out)) hb)
                                    clear HO_5
                                    clear HO_6
                                    clear HO369
                                    clear HL375_2
                                    clear BK374
                                    clear HR375_2
                                    clear HB
                                    have HO_5 := n0_
                                    have HO_6 := n1_
                                    have HO369 := n2_
                                    have HL375_2 := n3_
                                    have BK374 := n4_
                                    have HR375_2 := n5_
                                    have HB := n6_
                                    clear n0_ n1_ n2_ n3_ n4_ n5_ n6_
                                    (try clear hb)
                                    (try clear hb2)
                                    (try clear hk)
                                    (try clear hi)
                                    refine hK.out _ _ ⟨(blk_cell BK374.out 0).trans rfl, (blk_cell BK374.out 1).trans rfl, (blk_cell BK374.out 2).trans rfl, (blk_cell BK374.out 3).trans rfl, (blk_cell BK374.out 4).trans rfl, HS5_, HS6_, HS7_, HS8_, HS9_⟩ (fun hHeld => ?_)
                                    clear hK K
                                    refine norm_ (a' := ?_) ?_ ?_
                                    rotate_left
                                    · show Act.put _ (some 87) _ = _
                                      simp only [Act.put, List.setIfInBounds_toArray, List.set_cons_zero, List.set_cons_succ, i64_w, i32_w]
                                      rfl
                                    refine pure_ (i := 19) (N := some 88) (v := ?_) (a' := ?_) #[true, true, true, true, true, true, true, true, true, true, true, true, true, true, true, true, true, true, true, true, false] rfl rfl (any_of HT_.out (by kernel_rfl)) (fun _ _ _ h => h) (Or.inl ⟨by rfl, ?_⟩) ?_ ?_
                                    rotate_left
                                    · intro w'
                                      go_simp
                                      with_reducible rfl
                                    rotate_left
                                    · simp only [Act.put, List.setIfInBounds_toArray, List.set_cons_zero, List.set_cons_succ, i64_w, i32_w]
                                      rfl
                                    refine pure_ (i := 20) (N := some 89) (v := ?_) (a' := ?_) #[true, true, true, true, true, true, true, true, true, true, true, true, true, true, true, true, true, true, true, true, true] rfl rfl (any_of HT_.out (by kernel_rfl)) (fun _ _ _ h => h) (Or.inl ⟨by rfl, ?_⟩) ?_ ?_
                                    rotate_left
                                    · intro w'
                                      go_simp
                                      with_reducible rfl
                                    rotate_left
                                    · simp only [Act.put, List.setIfInBounds_toArray, List.set_cons_zero, List.set_cons_succ, i64_w, i32_w]
                                      rfl
                                    refine done_ (done_of HT_.out (by kernel_rfl)) ?_
                                    try go_wp2
                                    have n0_ := Aside0.mk (Kd.N_drew HO_5.out)
                                    have n1_ := Aside0.mk (Kd.V_drew HO_6.out)
                                    have n2_ := Aside0.mk (Kd.R_drew HO369.out)
                                    have n3_ := Aside0.mk (Kd.V_drew HL375_2.out)
                                    have n4_ := Aside0.mk (blk_drew BK374.out)
                                    have n5_ := Aside0.mk (Kd.C_drew HR375_2.out)
                                    have n6_ := Aside0.mk (below_drew1 HB.out)
                                    clear HO_5
                                    clear HO_6
                                    clear HO369
                                    clear HL375_2
                                    clear BK374
                                    clear HR375_2
                                    clear HB
                                    have HO_5 := n0_
                                    have HO_6 := n1_
                                    have HO369 := n2_
                                    have HL375_2 := n3_
                                    have BK374 := n4_
                                    have HR375_2 := n5_
                                    have HB := n6_
                                    clear n0_ n1_ n2_ n3_ n4_ n5_ n6_
                                    have q41 : (t372 : Int) ≤ ((x6_3.length : Int) : Int) := of_decide_eq_true (by first | (with_reducible assumption) | assumption)
                                    obtain ⟨i041, hi041, _, hsz41, _⟩ := info_parts info5
                                    have hroom41 : x6_3.length ≤ co32 := (Kd.V_reads' HO_6.out).2.1
                                    have hC41 : Kd.F (Kd.int .u8) _ _ Ao32 x6_3.length x6_3 := (Kd.V_at (base := w.heap.size) HO_6.out).2.2
                                    have q041 : (0 : Int) ≤ (t372 : Int) := of_decide_eq_true (by first | (with_reducible assumption) | assumption)
                                    have hcut41 := cut_from (P := Try.prog) 22 5 .i64 Try.underlying22 hi041 1 hsz41 Ao32 x6_3.length co32 t372 q041 q41
                                    have hr41 := Kd.F_cut (m := (t372 : Int).toNat) (c := co32) hC41 (by omega) hroom41
                                    obtain ⟨A41, hA41⟩ : ∃ A1, A1 = (if co32 = (t372 : Int).toNat then Ao32 else (Ao32 : Option Addr).map (·.add ((t372 : Int).toNat * 1))) := ⟨_, rfl⟩
                                    obtain ⟨c41, hc41⟩ : ∃ c1, c1 = co32 - (t372 : Int).toNat := ⟨_, rfl⟩
                                    have hy41 : y377.length = x6_3.length - (t372 : Int).toNat := (by rw [Ny377.out, List.length_drop] <;> omega)
                                    rw [show (x6_3).drop (t372 : Int).toNat = y377 from Ny377.out.symm] at hr41
                                    replace hr41 : Kd.F (Kd.int .u8) _ _ A41 y377.length y377 := (by rw [hA41]; exact hr41)
                                    rw [← hy41, ← hA41, ← hc41] at hcut41
                                    have HO381 := Aside0.mk (show Kd.V (Kd.int .u8) 5 _ w.heap.size _ (.slice A41 y377.length c41) y377 from Kd.V_mk (by rw [hy41, hc41]; exact Nat.sub_le_sub_right hroom41 _) hr41)
                                    have HC381 := Aside0.mk (show y377.length ≤ c41 from by rw [hy41, hc41]; exact Nat.sub_le_sub_right hroom41 _)
                                    clear hr41 hC41 hroom41 hi041 hsz41 hc41
                                    have KY41 := Aside0.mk hy41
                                    have KA41 := Aside0.mk hA41
                                    clear hy41 hA41
                                    replace q41 := eq_true q41
                                    refine start_ (n := 7) (S := fun w' => w'.cell? ⟨gb374, 0, none⟩ = some (.int .i64 t365) ∧ w'.cell? ⟨gb374, 1, none⟩ = some (.int .i64 t366) ∧ w'.cell? ⟨gb374, 2, none⟩ = some (.slice Ao36 t367.length co36) ∧ w'.cell? ⟨gb374, 3, none⟩ = some (.int .i64 t370) ∧ w'.cell? ⟨gb374, 4, none⟩ = some (.int .i64 t371)) (ds := []) #[false, false, false, false, false, false, false] (by kernel_rfl) rfl rfl ⟨(blk_cell BK374.out 0).trans rfl, (blk_cell BK374.out 1).trans rfl, (blk_cell BK374.out 2).trans rfl, (blk_cell BK374.out 3).trans rfl, (blk_cell BK374.out 4).trans rfl⟩ (fun hHeld => ?_)
                                    generalize w39.drew = w40 at HO_5 HO_6 HO369 HL375_2 BK374 HR375_2 HB HO381 hHeld ⊢
                                    refine pure_ (i := 0) (N := some 90) (v := ?_) (a' := ?_) #[true, false, false, false, false, false, false] rfl rfl (by kernel_rfl) (fun _ _ _ h => h) (Or.inl ⟨by rfl, ?_⟩) ?_ ?_
                                    rotate_left
                                    · intro w'
                                      go_simp
                                      with_reducible rfl
                                    rotate_left
                                    · simp only [Act.put, List.setIfInBounds_toArray, List.set_cons_zero, List.set_cons_succ, i64_w, i32_w]
                                      rfl
                                    refine pure_ (i := 1) (N := some 91) (v := ?_) (a' := ?_) #[true, true, false, false, false, false, false] rfl rfl (by kernel_rfl) (fun _ _ _ h => h) (Or.inl ⟨by rfl, ?_⟩) ?_ ?_
                                    rotate_left
                                    · intro w'
                                      go_simp
                                      with_reducible rfl
                                    rotate_left
                                    · simp only [Act.put, List.setIfInBounds_toArray, List.set_cons_zero, List.set_cons_succ, i64_w, i32_w]
                                      rfl
                                    refine pure_ (i := 2) (N := some 92) (v := ?_) (a' := ?_) #[true, true, true, false, false, false, false] rfl rfl (by kernel_rfl) (fun _ _ _ h => h) (Or.inl ⟨by rfl, ?_⟩) ?_ ?_
                                    rotate_left
                                    · intro w'
                                      go_simp
                                      with_reducible rfl
                                    rotate_left
                                    · simp only [Act.put, List.setIfInBounds_toArray, List.set_cons_zero, List.set_cons_succ, i64_w, i32_w]
                                      rfl
                                    refine pure_ (i := 3) (N := some 93) (v := ?_) (a' := ?_) #[true, true, true, true, false, false, false] rfl rfl (by kernel_rfl) (fun _ _ _ h => h) (Or.inl ⟨by rfl, ?_⟩) ?_ ?_
                                    rotate_left
                                    · intro w'
                                      go_simp
                                      with_reducible rfl
                                    rotate_left
                                    · simp only [Act.put, List.setIfInBounds_toArray, List.set_cons_zero, List.set_cons_succ, i64_w, i32_w]
                                      rfl
                                    refine pure_ (i := 5) (N := some 6) (v := ?_) (a' := ?_) #[true, true, true, true, false, true, false] rfl rfl (by kernel_rfl) (fun _ _ _ h => h) (Or.inl ⟨by rfl, ?_⟩) ?_ ?_
                                    rotate_left
                                    · intro w'
                                      go_simp
                                      with_reducible rfl
                                    rotate_left
                                    · simp only [Act.put, List.setIfInBounds_toArray, List.set_cons_zero, List.set_cons_succ, i64_w, i32_w]
                                      rfl
                                    refine take_ (i := 4) (N := some 94) (v := ?_) (a' := ?_) #[true, true, true, true, true, true, false] rfl rfl (by kernel_rfl) (fun _ _ _ h => h) (Or.inl ⟨by rfl, ?_⟩) hHeld ?_ ?_
                                    rotate_left
                                    · rintro w' ⟨s0, s1, s2, s3, s4⟩
                                      go_simp
                                      with_reducible rfl
                                    rotate_left
                                    · simp only [Act.put, List.setIfInBounds_toArray, List.set_cons_zero, List.set_cons_succ, i64_w, i32_w]
                                      rfl
                                    refine pure_ (i := 6) (N := some 7) (v := ?_) (a' := ?_) #[true, true, true, true, true, true, true] rfl rfl (by kernel_rfl) (fun _ _ _ h => h) (Or.inl ⟨by rfl, ?_⟩) ?_ ?_
                                    rotate_left
                                    · intro w'
                                      go_simp
                                      with_reducible rfl
                                    rotate_left
                                    · simp only [Act.put, List.setIfInBounds_toArray, List.set_cons_zero, List.set_cons_succ, i64_w, i32_w]
                                      rfl
                                    refine done_ (by kernel_rfl) ?_
                                    try go_wp2
                                    go_roundg k3
                                    case measure => have := HJ4.out; have := HK2.out; have := HK3.out; omega
                                    case rel => exact ⟨(y377), (t365), (wrap64 (x11_3 + 1)), (by first | rfl | (simp; done) | (simp [*]; done)), (by first | rfl | (simp; done) | (simp [*]; done)), H', ⟨by have := HJ4.out; have := HK2.out; have := HK3.out; omega⟩, ⟨by (with_reducible repeat (first | apply Kd.N_alloc | apply Kd.N_drewN | apply Kd.N_drew)); exact Kd.N_mono HO_5.out (fun _ hk => trivial)⟩, ⟨by (with_reducible repeat (first | apply Kd.V_alloc | apply Kd.V_drewN | apply Kd.V_drew)); exact Kd.V_mono HO381.out (fun _ hk => hk.1)⟩, ⟨by repeat (first | (with_reducible first | exact HB.out | apply below_alloc | apply pw_below_drewN | apply below_drew1 | refine below_set ?_ GE374.out) | exact HB.out)⟩⟩
                                  · rw [if_neg c31] at H
                                    exact absurd H (by simp)
                                · rw [if_neg c30] at H
                                  exact absurd H (by simp)
                              · replace c29 := Bool.eq_false_iff.mpr c29
                                subst c29
                                have H1 : (none) = some r := by rw [if_neg (show ¬ (false = true) by decide)] at H; exact H
                                clear H
                                have H := H1
                                clear H1
                                exact absurd H (by simp)
                            · rw [if_neg c27] at H
                              exact absurd H (by simp)
                      · rw [if_neg c24] at H
                        have c24b0 : (t373 == 0) = false := beq_eq_false_iff_ne.mpr c24
                        have c24b1 : (t373 != 0) = true := bne_iff_ne.mpr c24
                        exact absurd H (by simp)
                    · rw [if_neg c22] at H
                      have c22b0 : decide (x11_3 < (t343.length : Int)) = false := decide_eq_false c22
                      clear c22
                      replace H := Option.bind_eq_some_iff.mp H
                      obtain ⟨⟨t355, t356, t357, t360, t361, t362, t363⟩, A420, H⟩ := H
                      replace H : (if (x6_3.length : Int) = 0 then (some (t363 == 22)) else (none)) = some r := H
                      have A42 := Aside0.mk A420
                      clear A420
                      by_cases c43 : (x6_3.length : Int) = 0
                      · rw [if_pos c43] at H
                        have c43b0 : ((x6_3.length : Int) == 0) = true := beq_iff_eq.mpr c43
                        have c43b1 : ((x6_3.length : Int) != 0) = false := bne_eq_false_iff_eq.mpr c43
                        clear c43
                        obtain rfl := Option.some.inj H
                        obtain ⟨Ao44, co44, eo44⟩ := Kd.V_slice HO_6.out
                        subst eo44
                        go_wp2_with (first | ((with_reducible refine gate_callee (f := 14) rfl ?_); refine goesL_ (some 98) rfl rfl Try.func14 (by kernel_rfl) rfl #[.int .i64 x7_3, .slice Ao44 x6_3.length co44] rfl (by (try simp only [List.map_toArray, List.map_cons, List.map_nil]); first | done | rfl | (simp only [List.length_drop, List.length_take]; rfl)) ?_; (with_reducible refine (event_Read.calls k3 x7_3 _ _ x6_3 t355 t356 t357 t360 t361 t362 t363 _ ?side1 ?side2 A42.out).mono ?_); (case side1 => repeat (first | exact (Kd.V_reads' HO_6.out).2.2 | (with_reducible refine Kd.C_alloc ?_ _) | (with_reducible refine Kd.C_drewN ?_ _) | (with_reducible refine Kd.C_drew ?_))); (case side2 => exact (Kd.V_reads' HO_6.out).2.1); rintro e w45 ⟨v358, rfl, ho0, hb⟩; refine ⟨_, rfl, ?_⟩; have n0_ := Aside0.mk (Kd.N_elder' (by (with_reducible repeat (first | apply Kd.N_alloc | apply Kd.N_drewN | apply Kd.N_drew)); exact HO_5.out) (Kd.R_base ho0) hb); have n1_ := Aside0.mk (Kd.V_elder' (by (with_reducible repeat (first | apply Kd.V_alloc | apply Kd.V_drewN | apply Kd.V_drew)); exact HO_6.out) (Kd.R_base ho0) hb); have n2_ := Aside0.mk (Kd.R_lower ho0 (below_size (by repeat (first | (with_reducible first | exact HB.out | apply below_alloc | apply pw_below_drewN | apply below_drew1) | exact HB.out)))); have n3_ := Aside0.mk (below_step (by repeat (first | (with_reducible first | exact HB.out | apply below_alloc | apply pw_below_drewN | apply below_drew1) | exact HB.out)) hb); clear HO_5; clear HO_6; clear HB; have HO_5 := n0_; have HO_6 := n1_; have HO359 := n2_; have HB := n3_; clear n0_ n1_ n2_ n3_; (try clear hb); (try clear hb2); (try clear hk); (try clear hi); (try clear ho0)) | ((with_reducible refine gate_dst (N := 15) rfl ?_); (try (refine gate_guard (by rfl) ?_; dsimp only)); refine box_event ?hg (N := 15) ?hd (cs := #[.int .i64 0, .int .i64 0, .slice none 0 0, .int .i64 0, .int .i64 0]) (t := 30) ?hr ?_; (case hd => rfl); (case hg => rfl); (case hr => first | (go_simp; done) | (go_simp; rfl)); intro gb364 hg w46 hbox hb; have n0_ := Aside0.mk (Kd.N_below (Kd.N_elderB (by (with_reducible repeat (first | apply Kd.N_alloc | apply Kd.N_drewN | apply Kd.N_drew)); exact HO_5.out) gb364 (Nat.le_of_eq hg.symm)) hb); have n1_ := Aside0.mk (Kd.V_below (Kd.V_elderB (by (with_reducible repeat (first | apply Kd.V_alloc | apply Kd.V_drewN | apply Kd.V_drew)); exact HO_6.out) gb364 (Nat.le_of_eq hg.symm)) hb); have n2_ := Aside0.mk (Kd.R_below (by (with_reducible repeat (first | apply Kd.R_alloc | apply Kd.R_drewN | apply Kd.R_drew)); exact HO359.out) hb); have n3_ := Aside0.mk (below_step (by repeat (first | (with_reducible first | exact HB.out | apply below_alloc | apply pw_below_drewN | apply below_drew1) | exact HB.out)) hb); have n4_ := Aside0.mk (hbox); have n5_ := Aside0.mk ((by rw [hg]; exact (below_size (by repeat (first | (with_reducible first | exact HB.out | apply below_alloc | apply pw_below_drewN | apply below_drew1) | exact HB.out))) : w.heap.size ≤ gb364)); have n6_ := Aside0.mk ((by rw [hg]; exact (below_size (by repeat (first | (with_reducible first | exact HB.out | apply below_alloc | apply pw_below_drewN | apply below_drew1) | exact HB.out))) : w.heap.size ≤ gb364)); clear HO_5; clear HO_6; clear HO359; clear HB; have HO_5 := n0_; have HO_6 := n1_; have HO359 := n2_; have HB := n3_; have BK364 := n4_; have GW364 := n5_; have GE364 := n6_; clear n0_ n1_ n2_ n3_ n4_ n5_ n6_; clear hb hbox hg; have hcz47_0 : w46.cell? ⟨gb364, 0, none⟩ = some (.int .i64 0) := (blk_cell BK364.out 0).trans rfl; have hcz47_1 : w46.cell? ⟨gb364, 1, none⟩ = some (.int .i64 0) := (blk_cell BK364.out 1).trans rfl; have hcz47_2 : w46.cell? ⟨gb364, 2, none⟩ = some (.slice none 0 0) := (blk_cell BK364.out 2).trans rfl; have hcz47_3 : w46.cell? ⟨gb364, 3, none⟩ = some (.int .i64 0) := (blk_cell BK364.out 3).trans rfl; have hcz47_4 : w46.cell? ⟨gb364, 4, none⟩ = some (.int .i64 0) := (blk_cell BK364.out 4).trans rfl; have hfz47_0 := blk_frozen BK364.out 0; have hfz47_1 := blk_frozen BK364.out 1; have hfz47_2 := blk_frozen BK364.out 2; have hfz47_3 := blk_frozen BK364.out 3; have hfz47_4 := blk_frozen BK364.out 4; obtain ⟨Ao48, co48, eo48⟩ := Kd.R_slice HO359.out; subst eo48))
                        go_ret
                        exact ⟨by first | rfl | (simp [errW_none, errW_some] <;> rfl) | (simp [*, errW_none, errW_some] <;> rfl), by repeat (first | (with_reducible first | exact HB.out | apply below_alloc | apply pw_below_drewN | apply below_drew1 | refine below_set ?_ GE364.out) | exact HB.out)⟩
                      · rw [if_neg c43] at H
                        exact absurd H (by simp)
  · replace c4 := Bool.eq_false_iff.mpr c4
    subst c4
    have H1 : (none) = some r := by rw [if_neg (show ¬ (false = true) by decide)] at H; exact H
    clear H
    have H := H1
    clear H1
    exact absurd H (by simp)

/-- THE ONE PURE STATEMENT of repriselaw23_EventChain: yours. -/
def repriselaw23_EventChain.Pure : Prop := ∀ (l0 : List Int) (l1 : List Int), l0.length ≤ maxLen → l0.length * 1 ≤ 140737488351232 → (∀ x ∈ l0, (Lit.int .u8 x).wf = true) → l1.length ≤ maxLen → l1.length * 1 ≤ 140737488351232 → (∀ x ∈ l1, (Lit.int .u8 x).wf = true) → ∃ k, repriselaw23_EventChain.f k l0 l1 = some true
theorem repriselaw23_EventChain.walk (P : repriselaw23_EventChain.Pure) (a0 : Option Addr) (len0 cap0 : Nat) (z0 : List Int) (a1 : Option Addr) (len1 cap1 : Nat) (z1 : List Int) (w : World) (w0 : (a0 = none ∧ len0 = 0 ∧ cap0 = 0 ∧ z0 = []) ∨ ∃ x, a0 = some x ∧ len0 ≤ cap0 ∧ cap0 ≤ maxLen ∧ z0.length = cap0 ∧ (∀ i, i < z0.length → w.cell? (x.add i) = some (.int .u8 (z0.getD i 0))) ∧ ∀ n ∈ z0, (Lit.int .u8 n).wf = true) (y0 : len0 * 1 ≤ 140737488351232) (w1 : (a1 = none ∧ len1 = 0 ∧ cap1 = 0 ∧ z1 = []) ∨ ∃ x, a1 = some x ∧ len1 ≤ cap1 ∧ cap1 ≤ maxLen ∧ z1.length = cap1 ∧ (∀ i, i < z1.length → w.cell? (x.add i) = some (.int .u8 (z1.getD i 0))) ∧ ∀ n ∈ z1, (Lit.int .u8 n).wf = true) (y1 : len1 * 1 ≤ 140737488351232) :
    Calls Try.prog 4 #[.slice a0 len0 cap0, .slice a1 len1 cap1] w fun e w' => e = .returned (.bool true) ∧ Below w.heap.size w w' := by
  obtain ⟨l0, rfl, hr0, hm0, hw0, hc0⟩ := ReadsInt.ofRowC w0
  obtain ⟨l1, rfl, hr1, hm1, hw1, hc1⟩ := ReadsInt.ofRowC w1
  obtain ⟨k, h⟩ := P l0 l1 hm0 y0 hw0 hm1 y1 hw1
  refine (repriselaw23_EventChain.calls k _ _ l0 _ _ l1 true w (Kd.C_of_reads (d := (0 : Int)) (h1 := fun _ => rfl) hr0) hc0 (Kd.C_of_reads (d := (0 : Int)) (h1 := fun _ => rfl) hr1) hc1 h).mono ?_
  rintro e w' ⟨rfl, hd⟩
  exact ⟨rfl, hd⟩

end Go.Proofs.Ytmaefdeigienjaa.QEventChain
