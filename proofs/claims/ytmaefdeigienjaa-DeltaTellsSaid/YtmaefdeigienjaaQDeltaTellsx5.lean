/- Lean functions for the Go functions that the law reaches, and proofs that each call comes to just what its Lean function tells; no condition. (Written by a program of this session.) -/
import Derived.Test.YtmaefdeigienjaaQDeltaTellsx0
import Derived.Test.YtmaefdeigienjaaQDeltaTellsx4
namespace Go.Proofs.Ytmaefdeigienjaa.QDeltaTells
open Go.RowKit Go.Proofs.YtmaefdeigienjaaW.PrintWords Go.Proofs.YtmaefdeigienjaaW.PrintLast Go.Proofs.YtmaefdeigienjaaW.PrintMore
attribute [local go_sem] max2_int min2_int max_two min_two max_three min_three max_four min_four   -- for this text's walks alone
set_option linter.unusedVariables false
set_option linter.unusedSimpArgs false

/-! ### repriseref5_Apply: function 31 -/
mutual
def repriseref5_Apply.l0 : Nat → List Int → List Int → List Int → Int → Option (List Int × Int)
  | 0, _, _, _, _ => none
  | k + 1, x0, x1, x8, x9 => if (x1.length : Int) > 0 then ((repriseref1_Read.f k x1).bind fun bt221 => (if bt221.2.2 = 0 then (if 0 ≤ bt221.2.1 then (if bt221.2.1 ≤ (x1.length : Int) then ((some (x1.drop (bt221.2.1 : Int).toNat : List Int)).bind fun y224 => (if (Int.tmod bt221.1 2) = 1 then ((repriseref1_Read.f k y224).bind fun bt229 => (if bt229.2.2 = 0 then (if 0 ≤ bt229.2.1 then (if bt229.2.1 ≤ (y224.length : Int) then (repriseref5_Apply.j1 k x0 (y224.drop (bt229.2.1 : Int).toNat) x8 x9 bt221.1 bt229.1) else (none)) else (none)) else (some (([] : List Int), bt229.2.2)))) else (repriseref5_Apply.j1 k x0 y224 x8 x9 bt221.1 0))) else (none)) else (none)) else (some (([] : List Int), bt221.2.2)))) else (some (x8, 0))
def repriseref5_Apply.j1 : Nat → List Int → List Int → List Int → Int → Int → Int → Option (List Int × Int)
  | 0, _, _, _, _, _, _ => none
  | k + 1, x0, x1, x8, x9, x10, x13 => if (IntKind.u64.wrap (Int.tdiv x10 2)) = 0 then (some (([] : List Int), 21)) else (if (IntKind.u64.wrap (Int.tdiv x10 2)) > x9 then (some (([] : List Int), 25)) else (if (Int.tmod x10 2) = 0 then (repriseref5_Apply.j2 k x0 x1 x8 x9 x10 x13 (IntKind.u64.wrap (Int.tdiv x10 2)) (decide ((IntKind.u64.wrap (Int.tdiv x10 2)) > (IntKind.u64.wrap ((x1.length : Int)))))) else (repriseref5_Apply.j2 k x0 x1 x8 x9 x10 x13 (IntKind.u64.wrap (Int.tdiv x10 2)) false)))
def repriseref5_Apply.j2 : Nat → List Int → List Int → List Int → Int → Int → Int → Int → Bool → Option (List Int × Int)
  | 0, _, _, _, _, _, _, _, _ => none
  | k + 1, x0, x1, x8, x9, x10, x13, x14, x57 => if x57 = true then (some (([] : List Int), 22)) else (if (Int.tmod x10 2) = 1 then (if x13 > (IntKind.u64.wrap ((x0.length : Int))) then (repriseref5_Apply.j3 k x0 x1 x8 x9 x10 x13 x14 true) else (repriseref5_Apply.j3 k x0 x1 x8 x9 x10 x13 x14 (decide (x14 > (IntKind.u64.wrap ((IntKind.u64.wrap ((x0.length : Int))) - x13)))))) else (repriseref5_Apply.j3 k x0 x1 x8 x9 x10 x13 x14 false))
def repriseref5_Apply.j3 : Nat → List Int → List Int → List Int → Int → Int → Int → Int → Bool → Option (List Int × Int)
  | 0, _, _, _, _, _, _, _, _ => none
  | k + 1, x0, x1, x8, x9, x10, x13, x14, x68 => if x68 = true then (some (([] : List Int), 21)) else (if (Int.tmod x10 2) = 0 then (if 0 ≤ x14 then (if x14 ≤ (x1.length : Int) then ((some (x1.take (x14 : Int).toNat : List Int)).bind fun y237 => (if x8.length + y237.length < 140737488355328 then (repriseref5_Apply.l0 k x0 (x1.drop (x14 : Int).toNat) (x8 ++ y237) (IntKind.u64.wrap (x9 - x14))) else (none))) else (none)) else (none)) else (if 0 ≤ x13 then (if x13 ≤ (IntKind.u64.wrap (x13 + x14)) then (if (IntKind.u64.wrap (x13 + x14)) ≤ (x0.length : Int) then (if x8.length + ((x0.take ((IntKind.u64.wrap (x13 + x14)) : Int).toNat).drop (x13 : Int).toNat).length < 140737488355328 then (repriseref5_Apply.l0 k x0 x1 (x8 ++ ((x0.take ((IntKind.u64.wrap (x13 + x14)) : Int).toNat).drop (x13 : Int).toNat)) (IntKind.u64.wrap (x9 - x14))) else (none)) else (none)) else (none)) else (none)))
end
def repriseref5_Apply.f (k : Nat) (l0 : List Int) (l1 : List Int) (a2 : Int) : Option (List Int × Int) := repriseref5_Apply.l0 k l0 l1 ([] : List Int) (IntKind.u64.wrap (mx a2 0))
theorem repriseref5_Apply.mono_l : ∀ k, (∀ y0 y1 y2 y3, LeO (repriseref5_Apply.l0 k y0 y1 y2 y3) (repriseref5_Apply.l0 (k + 1) y0 y1 y2 y3)) ∧ (∀ y0 y1 y2 y3 y4 y5, LeO (repriseref5_Apply.j1 k y0 y1 y2 y3 y4 y5) (repriseref5_Apply.j1 (k + 1) y0 y1 y2 y3 y4 y5)) ∧ (∀ y0 y1 y2 y3 y4 y5 y6 y7, LeO (repriseref5_Apply.j2 k y0 y1 y2 y3 y4 y5 y6 y7) (repriseref5_Apply.j2 (k + 1) y0 y1 y2 y3 y4 y5 y6 y7)) ∧ (∀ y0 y1 y2 y3 y4 y5 y6 y7, LeO (repriseref5_Apply.j3 k y0 y1 y2 y3 y4 y5 y6 y7) (repriseref5_Apply.j3 (k + 1) y0 y1 y2 y3 y4 y5 y6 y7))
  | 0 => ⟨fun _ _ _ _ r h => by simp [repriseref5_Apply.l0] at h, fun _ _ _ _ _ _ r h => by simp [repriseref5_Apply.j1] at h, fun _ _ _ _ _ _ _ _ r h => by simp [repriseref5_Apply.j2] at h, fun _ _ _ _ _ _ _ _ r h => by simp [repriseref5_Apply.j3] at h⟩
  | k + 1 => by
    obtain ⟨ih0, ih1, ih2, ih3⟩ := repriseref5_Apply.mono_l k
    refine ⟨?_, ?_, ?_, ?_⟩
    · intro y0 y1 y2 y3
      unfold repriseref5_Apply.l0
      repeat' first
      | (with_reducible exact ih0 _ _ _ _)
      | (with_reducible exact ih1 _ _ _ _ _ _)
      | (with_reducible exact ih2 _ _ _ _ _ _ _ _)
      | (with_reducible exact ih3 _ _ _ _ _ _ _ _)
      | (with_reducible exact repriseref1_Read.mono _ _)
      | (with_reducible exact LeO.refl _)
      | (with_reducible exact LeO.none _)
      | (with_reducible refine LeO.ite ?_ ?_)
      | (with_reducible refine LeO.bind ?_ (fun _ => ?_))
      | exact ih0 _ _ _ _
      | exact ih1 _ _ _ _ _ _
      | exact ih2 _ _ _ _ _ _ _ _
      | exact ih3 _ _ _ _ _ _ _ _
      | exact repriseref1_Read.mono _ _
      | exact LeO.none _
      | refine LeO.ite ?_ ?_
      | refine LeO.bind ?_ (fun _ => ?_)
    · intro y0 y1 y2 y3 y4 y5
      unfold repriseref5_Apply.j1
      repeat' first
      | (with_reducible exact ih0 _ _ _ _)
      | (with_reducible exact ih1 _ _ _ _ _ _)
      | (with_reducible exact ih2 _ _ _ _ _ _ _ _)
      | (with_reducible exact ih3 _ _ _ _ _ _ _ _)
      | (with_reducible exact repriseref1_Read.mono _ _)
      | (with_reducible exact LeO.refl _)
      | (with_reducible exact LeO.none _)
      | (with_reducible refine LeO.ite ?_ ?_)
      | (with_reducible refine LeO.bind ?_ (fun _ => ?_))
      | exact ih0 _ _ _ _
      | exact ih1 _ _ _ _ _ _
      | exact ih2 _ _ _ _ _ _ _ _
      | exact ih3 _ _ _ _ _ _ _ _
      | exact repriseref1_Read.mono _ _
      | exact LeO.none _
      | refine LeO.ite ?_ ?_
      | refine LeO.bind ?_ (fun _ => ?_)
    · intro y0 y1 y2 y3 y4 y5 y6 y7
      unfold repriseref5_Apply.j2
      repeat' first
      | (with_reducible exact ih0 _ _ _ _)
      | (with_reducible exact ih1 _ _ _ _ _ _)
      | (with_reducible exact ih2 _ _ _ _ _ _ _ _)
      | (with_reducible exact ih3 _ _ _ _ _ _ _ _)
      | (with_reducible exact repriseref1_Read.mono _ _)
      | (with_reducible exact LeO.refl _)
      | (with_reducible exact LeO.none _)
      | (with_reducible refine LeO.ite ?_ ?_)
      | (with_reducible refine LeO.bind ?_ (fun _ => ?_))
      | exact ih0 _ _ _ _
      | exact ih1 _ _ _ _ _ _
      | exact ih2 _ _ _ _ _ _ _ _
      | exact ih3 _ _ _ _ _ _ _ _
      | exact repriseref1_Read.mono _ _
      | exact LeO.none _
      | refine LeO.ite ?_ ?_
      | refine LeO.bind ?_ (fun _ => ?_)
    · intro y0 y1 y2 y3 y4 y5 y6 y7
      unfold repriseref5_Apply.j3
      repeat' first
      | (with_reducible exact ih0 _ _ _ _)
      | (with_reducible exact ih1 _ _ _ _ _ _)
      | (with_reducible exact ih2 _ _ _ _ _ _ _ _)
      | (with_reducible exact ih3 _ _ _ _ _ _ _ _)
      | (with_reducible exact repriseref1_Read.mono _ _)
      | (with_reducible exact LeO.refl _)
      | (with_reducible exact LeO.none _)
      | (with_reducible refine LeO.ite ?_ ?_)
      | (with_reducible refine LeO.bind ?_ (fun _ => ?_))
      | exact ih0 _ _ _ _
      | exact ih1 _ _ _ _ _ _
      | exact ih2 _ _ _ _ _ _ _ _
      | exact ih3 _ _ _ _ _ _ _ _
      | exact repriseref1_Read.mono _ _
      | exact LeO.none _
      | refine LeO.ite ?_ ?_
      | refine LeO.bind ?_ (fun _ => ?_)
theorem repriseref5_Apply.mono : ∀ a0 a1 a2 k, LeO (repriseref5_Apply.f k a0 a1 a2) (repriseref5_Apply.f (k + 1) a0 a1 a2) := by
  intro a0 a1 a2 k
  obtain ⟨ih0, ih1, ih2, ih3⟩ := repriseref5_Apply.mono_l k
  unfold repriseref5_Apply.f
  repeat' first
      | (with_reducible exact ih0 _ _ _ _)
      | (with_reducible exact ih1 _ _ _ _ _ _)
      | (with_reducible exact ih2 _ _ _ _ _ _ _ _)
      | (with_reducible exact ih3 _ _ _ _ _ _ _ _)
      | (with_reducible exact repriseref1_Read.mono _ _)
      | (with_reducible exact LeO.refl _)
      | (with_reducible exact LeO.none _)
      | (with_reducible refine LeO.ite ?_ ?_)
      | (with_reducible refine LeO.bind ?_ (fun _ => ?_))
      | exact ih0 _ _ _ _
      | exact ih1 _ _ _ _ _ _
      | exact ih2 _ _ _ _ _ _ _ _
      | exact ih3 _ _ _ _ _ _ _ _
      | exact repriseref1_Read.mono _ _
      | exact LeO.none _
      | refine LeO.ite ?_ ?_
      | refine LeO.bind ?_ (fun _ => ?_)
set_option maxHeartbeats 8000000 in
set_option maxRecDepth 100000 in
theorem repriseref5_Apply.calls (k : Nat) (A0 : Option Addr) (c0 : Nat) (l0 : List Int) (P1_ : Nat → Prop) (A1 : Option Addr) (c1 : Nat) (l1 : List Int) (a2 : Int) (r1 : List Int) (r2 : Int) (w : World) (hr0 : Kd.C (Kd.int .u8) w A0 l0.length l0) (hc0 : l0.length ≤ c0) (hs1 : Kd.V (Kd.int .u8) 5 w w.heap.size (fun k_ => P1_ k_) (.slice A1 l1.length c1) l1) (h : repriseref5_Apply.f k l0 l1 a2 = some (r1, r2)) :
    Calls Try.prog 31 #[.slice A0 l0.length c0, .slice A1 l1.length c1, .int .i64 a2] w fun e w' => ∃ v0_ : Value, e = .returned (.tuple #[v0_, .int .i64 r2]) ∧ Kd.R (Kd.int .u8) 5 w' w.heap.size (fun k_ => (w.heap.size ≤ k_)) v0_ r1 ∧ Below w.heap.size w w' := by
  have HR0 := Aside0.mk hr0
  have HC0 := Aside0.mk hc0
  clear hr0 hc0
  have HO1 := Aside0.mk (show Kd.V (Kd.int .u8) 5 w w.heap.size (fun k_ => (P1_ k_ ∨ w.heap.size ≤ k_)) (.slice A1 l1.length c1) l1 from Kd.V_mono hs1 (fun k_ hk => .inl hk))
  have HB := Aside0.mk (Below.refl w.heap.size w)
  have H : (repriseref5_Apply.l0 k l0 l1 ([] : List Int) (IntKind.u64.wrap (mx a2 0))) = some (r1, r2) := h
  clear h
  obtain ⟨ji4, hji4⟩ : ∃ j_ : Int, (mx a2 0) = j_ := ⟨_, rfl⟩
  replace H : (repriseref5_Apply.l0 k l0 l1 ([] : List Int) (IntKind.u64.wrap (ji4))) = some (r1, r2) := by first | (rw [hji4] at H; exact H) | (simp only [hji4] at H ⊢; exact H)
  (try (have hji4l : 0 ≤ ji4 := by (rw [← hji4]; unfold mx; (repeat' split) <;> omega)))
  (try (have hji4m : 0 ≤ ji4 := by omega))
  have hji4_ : (if a2 < 0 then 0 else a2) = ji4 := hji4
  have H' := Aside0.mk H
  clear H
  go_enter Try.func31, Try.ntmps31
  go_wp2
  go_loopg [1, 8, 9] k (fun kq v1 v8 v9 w' => ∃ (x1_1 : List Int) (x8_1 : List Int) (x9_1 : Int), v9 = .int .u64 x9_1 ∧ Aside0 (repriseref5_Apply.l0 kq l0 x1_1 x8_1 x9_1 = some (r1, r2)) ∧ Aside0 (kq ≤ k) ∧ Aside0 (Kd.V (Kd.int .u8) 5 w' w.heap.size (fun k_ => (P1_ k_ ∨ w.heap.size ≤ k_) ∧ some k_ ≠ (v8 : Value).ownBlock) v1 x1_1) ∧ Aside0 (Kd.R (Kd.int .u8) 5 w' w.heap.size (fun k_ => (w.heap.size ≤ k_)) v8 x8_1) ∧ Aside0 (Below w.heap.size w w'))
  case atStart => exact ⟨(l1), (([] : List Int)), (IntKind.u64.wrap (ji4)), (by first | rfl | (simp; done) | (simp only [← hji4] <;> (first | rfl | simp)) | (simp [*]; done)), H', ⟨Nat.le_refl _⟩, ⟨by (with_reducible repeat (first | apply Kd.V_alloc | apply Kd.V_drewN | apply Kd.V_drew)); exact Kd.V_mono HO1.out (fun _ hk => ⟨hk, (by simp [Value.ownBlock])⟩)⟩, ⟨by first | exact Kd.R_nil _ _ _ _ _ | exact Kd.N_nil _ _ _ _ _ | exact Kd.V_nil _ _ _ _ _ | exact Kd.Q_nil _ _ _ _ _ | exact Kd.S_nil _ _ _ _ _⟩, ⟨by repeat (first | (with_reducible first | exact HB.out | apply below_alloc | apply pw_below_drewN | apply below_drew1) | exact HB.out)⟩⟩
  case round =>
    clear H'
    try clear c1
    try clear p2
    try clear c3
    obtain ⟨x1_1, x8_1, x9_1, rfl, HA, HK1, HO_1, HO_8, HB⟩ := hrel
    cases gk with
    | zero => exact absurd HA.out (by simp [repriseref5_Apply.l0])
    | succ k1 =>
      have H := HA.out
      clear HA
      simp only [repriseref5_Apply.l0] at H
      by_cases c5 : (x1_1.length : Int) > 0
      · rw [if_pos c5] at H
        have c5b0 : decide (0 < (x1_1.length : Int)) = true := decide_eq_true c5
        have c5b1 : decide (0 < x1_1.length) = true := decide_eq_true (by omega)
        clear c5
        replace H := Option.bind_eq_some_iff.mp H
        obtain ⟨⟨t221, t222, t223⟩, A60, H⟩ := H
        replace H : (if t223 = 0 then (if 0 ≤ t222 then (if t222 ≤ (x1_1.length : Int) then ((some (x1_1.drop (t222 : Int).toNat : List Int)).bind fun y224 => (if (Int.tmod t221 2) = 1 then ((repriseref1_Read.f k1 y224).bind fun bt229 => (if bt229.2.2 = 0 then (if 0 ≤ bt229.2.1 then (if bt229.2.1 ≤ (y224.length : Int) then (repriseref5_Apply.j1 k1 l0 (y224.drop (bt229.2.1 : Int).toNat) x8_1 x9_1 t221 bt229.1) else (none)) else (none)) else (some (([] : List Int), bt229.2.2)))) else (repriseref5_Apply.j1 k1 l0 y224 x8_1 x9_1 t221 0))) else (none)) else (none)) else (some (([] : List Int), t223))) = some (r1, r2) := H
        have A6 := Aside0.mk A60
        clear A60
        by_cases c7 : t223 = 0
        · rw [if_pos c7] at H
          have c7b0 : (t223 == 0) = true := beq_iff_eq.mpr c7
          have c7b1 : (t223 != 0) = false := bne_eq_false_iff_eq.mpr c7
          clear c7
          by_cases c8 : 0 ≤ t222
          · rw [if_pos c8] at H
            have c8b0 := eq_true c8
            have c8b1 : decide (0 ≤ t222) = true := decide_eq_true c8
            clear c8
            by_cases c9 : t222 ≤ (x1_1.length : Int)
            · rw [if_pos c9] at H
              have c9b0 := eq_true c9
              have c9b1 : decide (t222 ≤ (x1_1.length : Int)) = true := decide_eq_true c9
              clear c9
              obtain ⟨y224, hy224⟩ : ∃ y_ : List Int, y_ = (x1_1.drop (t222 : Int).toNat) := ⟨_, rfl⟩
              replace H : (if (Int.tmod t221 2) = 1 then ((repriseref1_Read.f k1 y224).bind fun bt229 => (if bt229.2.2 = 0 then (if 0 ≤ bt229.2.1 then (if bt229.2.1 ≤ (y224.length : Int) then (repriseref5_Apply.j1 k1 l0 (y224.drop (bt229.2.1 : Int).toNat) x8_1 x9_1 t221 bt229.1) else (none)) else (none)) else (some (([] : List Int), bt229.2.2)))) else (repriseref5_Apply.j1 k1 l0 y224 x8_1 x9_1 t221 0)) = some (r1, r2) := by first | (rw [hy224]; with_reducible exact H) | (have H2_ := (Option.bind_some _ _).symm.trans H; rw [hy224]; with_reducible exact H2_) | (have H2_ := (Option.bind_some _ _).symm.trans H; with_reducible exact H2_) | with_reducible exact H | (rw [hy224]; exact H) | exact H
              have Ny224 := Aside0.mk hy224
              clear hy224
              have HC10 := Aside0.mk H
              clear H
              obtain ⟨Ao11, co11, eo11⟩ := Kd.V_slice HO_1.out
              subst eo11
              go_upto_if 35 with (first | ((with_reducible refine gate_callee (f := 38) rfl ?_); refine goesL_ (some 23) rfl rfl Try.func38 (by kernel_rfl) rfl #[.slice Ao11 x1_1.length co11] rfl (by (try simp only [List.map_toArray, List.map_cons, List.map_nil]); first | done | rfl | (simp only [List.length_drop, List.length_take]; rfl)) ?_; (with_reducible refine (repriseref1_Read.calls k1 _ _ x1_1 t221 t222 t223 _ ?side1 ?side2 A6.out).mono ?_); (case side1 => repeat (first | exact (Kd.V_reads' HO_1.out).2.2 | (with_reducible refine Kd.C_alloc ?_ _) | (with_reducible refine Kd.C_drewN ?_ _) | (with_reducible refine Kd.C_drew ?_))); (case side2 => exact (Kd.V_reads' HO_1.out).2.1); rintro e w' ⟨rfl, ⟨nd, rfl⟩⟩; refine ⟨_, rfl, ?_⟩; have q12 : (t222 : Int) ≤ ((x1_1.length : Int) : Int) := of_decide_eq_true (by first | (with_reducible assumption) | assumption); obtain ⟨i012, hi012, _, hsz12, _⟩ := info_parts info5; have hroom12 : x1_1.length ≤ co11 := (Kd.V_reads' HO_1.out).2.1; have hC12 : Kd.F (Kd.int .u8) _ _ Ao11 x1_1.length x1_1 := (Kd.V_at (base := w.heap.size) HO_1.out).2.2; have q012 : (0 : Int) ≤ (t222 : Int) := of_decide_eq_true (by first | (with_reducible assumption) | assumption); have hcut12 := cut_from (P := Try.prog) 22 5 .i64 Try.underlying22 hi012 1 hsz12 Ao11 x1_1.length co11 t222 q012 q12; have hr12 := Kd.F_cut (m := (t222 : Int).toNat) (c := co11) hC12 (by omega) hroom12; obtain ⟨A12, hA12⟩ : ∃ A1, A1 = (if co11 = (t222 : Int).toNat then Ao11 else (Ao11 : Option Addr).map (·.add ((t222 : Int).toNat * 1))) := ⟨_, rfl⟩; obtain ⟨c12, hc12⟩ : ∃ c1, c1 = co11 - (t222 : Int).toNat := ⟨_, rfl⟩; have hy12 : y224.length = x1_1.length - (t222 : Int).toNat := (by rw [Ny224.out, List.length_drop] <;> omega); rw [show (x1_1).drop (t222 : Int).toNat = y224 from Ny224.out.symm] at hr12; replace hr12 : Kd.F (Kd.int .u8) _ _ A12 y224.length y224 := (by rw [hA12]; exact hr12); rw [← hy12, ← hA12, ← hc12] at hcut12; have HO228 := Aside0.mk (show Kd.V (Kd.int .u8) 5 _ w.heap.size _ (.slice A12 y224.length c12) y224 from Kd.V_mk (by rw [hy12, hc12]; exact Nat.sub_le_sub_right hroom12 _) hr12); have HC228 := Aside0.mk (show y224.length ≤ c12 from by rw [hy12, hc12]; exact Nat.sub_le_sub_right hroom12 _); clear hr12 hC12 hroom12 hi012 hsz12 hc12; have KY12 := Aside0.mk hy12; have KA12 := Aside0.mk hA12; clear hy12 hA12; replace q12 := eq_true q12))
              (try simp only [Act.put, List.setIfInBounds_toArray, List.set_cons_zero, List.set_cons_succ])
              go_cut [1, 13] (fun v1 v13 wc => ∃ (kq : Nat) (x1_9 : List Int) (x13_9 : Int), v13 = .int .u64 x13_9 ∧ Aside0 (repriseref5_Apply.j1 kq l0 x1_9 x8_1 x9_1 t221 x13_9 = some (r1, r2)) ∧ Aside0 (kq ≤ k1) ∧ Aside0 (Kd.V (Kd.int .u8) 5 wc w.heap.size (fun k_ => (P1_ k_ ∨ w.heap.size ≤ k_) ∧ some k_ ≠ (u8 : Value).ownBlock) v1 x1_9) ∧ Aside0 (Kd.R (Kd.int .u8) 5 wc w.heap.size (fun k_ => (w.heap.size ≤ k_)) u8 x8_1) ∧ Aside0 (Below w.heap.size w wc))
              case first =>
                have H := HC10.out
                clear HC10
                by_cases c13 : (Int.tmod t221 2) = 1
                · rw [if_pos c13] at H
                  have c13b0 : ((Int.tmod t221 2) == 1) = true := beq_iff_eq.mpr c13
                  have c13b1 : ((Int.tmod t221 2) != 1) = false := bne_eq_false_iff_eq.mpr c13
                  clear c13
                  (first | rw [c13b0] | (simp only [i64_w, i32_w]; rw [c13b0]) | skip)
                  replace H := Option.bind_eq_some_iff.mp H
                  obtain ⟨⟨t229, t230, t231⟩, A140, H⟩ := H
                  replace H : (if t231 = 0 then (if 0 ≤ t230 then (if t230 ≤ (y224.length : Int) then (repriseref5_Apply.j1 k1 l0 (y224.drop (t230 : Int).toNat) x8_1 x9_1 t221 t229) else (none)) else (none)) else (some (([] : List Int), t231))) = some (r1, r2) := H
                  have A14 := Aside0.mk A140
                  clear A140
                  by_cases c15 : t231 = 0
                  · rw [if_pos c15] at H
                    have c15b0 : (t231 == 0) = true := beq_iff_eq.mpr c15
                    have c15b1 : (t231 != 0) = false := bne_eq_false_iff_eq.mpr c15
                    clear c15
                    by_cases c16 : 0 ≤ t230
                    · rw [if_pos c16] at H
                      have c16b0 := eq_true c16
                      have c16b1 : decide (0 ≤ t230) = true := decide_eq_true c16
                      clear c16
                      by_cases c17 : t230 ≤ (y224.length : Int)
                      · rw [if_pos c17] at H
                        have c17b0 := eq_true c17
                        have c17b1 : decide (t230 ≤ (y224.length : Int)) = true := decide_eq_true c17
                        clear c17
                        obtain ⟨y232, hy232⟩ : ∃ y_ : List Int, y_ = (y224.drop (t230 : Int).toNat) := ⟨_, rfl⟩
                        replace H : (repriseref5_Apply.j1 k1 l0 y232 x8_1 x9_1 t221 t229) = some (r1, r2) := by first | (rw [hy232]; with_reducible exact H) | (have H2_ := (Option.bind_some _ _).symm.trans H; rw [hy232]; with_reducible exact H2_) | (have H2_ := (Option.bind_some _ _).symm.trans H; with_reducible exact H2_) | with_reducible exact H | (rw [hy232]; exact H) | exact H
                        have Ny232 := Aside0.mk hy232
                        clear hy232
                        have H' := Aside0.mk H
                        clear H
                        go_wp2_with (first | ((with_reducible refine gate_callee (f := 38) rfl ?_); refine goesL_ (some 38) rfl rfl Try.func38 (by kernel_rfl) rfl #[.slice A12 y224.length c12] rfl (by (try simp only [List.map_toArray, List.map_cons, List.map_nil]); first | done | rfl | (simp only [List.length_drop, List.length_take]; rfl)) ?_; (with_reducible refine (repriseref1_Read.calls k1 _ _ y224 t229 t230 t231 _ ?side1 ?side2 A14.out).mono ?_); (case side1 => repeat (first | exact (Kd.V_reads' HO228.out).2.2 | (with_reducible refine Kd.C_alloc ?_ _) | (with_reducible refine Kd.C_drewN ?_ _) | (with_reducible refine Kd.C_drew ?_))); (case side2 => exact (Kd.V_reads' HO228.out).2.1); rintro e w' ⟨rfl, ⟨nd, rfl⟩⟩; refine ⟨_, rfl, ?_⟩; have q18 : (t230 : Int) ≤ ((y224.length : Int) : Int) := of_decide_eq_true (by first | (with_reducible assumption) | assumption); obtain ⟨i018, hi018, _, hsz18, _⟩ := info_parts info5; have hroom18 : y224.length ≤ c12 := (Kd.V_reads' HO228.out).2.1; have hC18 : Kd.F (Kd.int .u8) _ _ A12 y224.length y224 := (Kd.V_at (base := w.heap.size) HO228.out).2.2; have q018 : (0 : Int) ≤ (t230 : Int) := of_decide_eq_true (by first | (with_reducible assumption) | assumption); have hcut18 := cut_from (P := Try.prog) 22 5 .i64 Try.underlying22 hi018 1 hsz18 A12 y224.length c12 t230 q018 q18; have hr18 := Kd.F_cut (m := (t230 : Int).toNat) (c := c12) hC18 (by omega) hroom18; obtain ⟨A18, hA18⟩ : ∃ A1, A1 = (if c12 = (t230 : Int).toNat then A12 else (A12 : Option Addr).map (·.add ((t230 : Int).toNat * 1))) := ⟨_, rfl⟩; obtain ⟨c18, hc18⟩ : ∃ c1, c1 = c12 - (t230 : Int).toNat := ⟨_, rfl⟩; have hy18 : y232.length = y224.length - (t230 : Int).toNat := (by rw [Ny232.out, List.length_drop] <;> omega); rw [show (y224).drop (t230 : Int).toNat = y232 from Ny232.out.symm] at hr18; replace hr18 : Kd.F (Kd.int .u8) _ _ A18 y232.length y232 := (by rw [hA18]; exact hr18); rw [← hy18, ← hA18, ← hc18] at hcut18; have HO236 := Aside0.mk (show Kd.V (Kd.int .u8) 5 _ w.heap.size _ (.slice A18 y232.length c18) y232 from Kd.V_mk (by rw [hy18, hc18]; exact Nat.sub_le_sub_right hroom18 _) hr18); have HC236 := Aside0.mk (show y232.length ≤ c18 from by rw [hy18, hc18]; exact Nat.sub_le_sub_right hroom18 _); clear hr18 hC18 hroom18 hi018 hsz18 hc18; have KY18 := Aside0.mk hy18; have KA18 := Aside0.mk hA18; clear hy18 hA18; replace q18 := eq_true q18))
                        go_meet
                        case rel => exact ⟨_, (y232), (t229), (by first | rfl | (simp; done) | (simp [*]; done)), H', ⟨by have := HK1.out; first | omega | exact Nat.le_refl _⟩, ⟨by (with_reducible repeat (first | apply Kd.V_alloc | apply Kd.V_drewN | apply Kd.V_drew)); exact HO236.out⟩, ⟨by (with_reducible repeat (first | apply Kd.R_alloc | apply Kd.R_drewN | apply Kd.R_drew)); exact HO_8.out⟩, ⟨by repeat (first | (with_reducible first | exact HB.out | apply below_alloc | apply pw_below_drewN | apply below_drew1) | exact HB.out)⟩⟩
                      · rw [if_neg c17] at H
                        exact absurd H (by simp)
                    · rw [if_neg c16] at H
                      exact absurd H (by simp)
                  · rw [if_neg c15] at H
                    have c15b0 : (t231 == 0) = false := beq_eq_false_iff_ne.mpr c15
                    have c15b1 : (t231 != 0) = true := bne_iff_ne.mpr c15
                    simp only [Option.some.injEq, Prod.mk.injEq] at H
                    obtain ⟨rfl, rfl⟩ := H
                    go_wp2_with (first | ((with_reducible refine gate_callee (f := 38) rfl ?_); refine goesL_ (some 38) rfl rfl Try.func38 (by kernel_rfl) rfl #[.slice A12 y224.length c12] rfl (by (try simp only [List.map_toArray, List.map_cons, List.map_nil]); first | done | rfl | (simp only [List.length_drop, List.length_take]; rfl)) ?_; (with_reducible refine (repriseref1_Read.calls k1 _ _ y224 t229 t230 t231 _ ?side1 ?side2 A14.out).mono ?_); (case side1 => repeat (first | exact (Kd.V_reads' HO228.out).2.2 | (with_reducible refine Kd.C_alloc ?_ _) | (with_reducible refine Kd.C_drewN ?_ _) | (with_reducible refine Kd.C_drew ?_))); (case side2 => exact (Kd.V_reads' HO228.out).2.1); rintro e w' ⟨rfl, ⟨nd, rfl⟩⟩; refine ⟨_, rfl, ?_⟩))
                    go_ret2
                    exact ⟨_, by first | rfl | (simp [errW_none, errW_some] <;> rfl) | (simp only [← hji4]; first | rfl | (simp [errW_none, errW_some] <;> rfl)) | (simp [*, errW_none, errW_some] <;> rfl), by first | exact Kd.R_nil _ _ _ _ _ | exact Kd.N_nil _ _ _ _ _ | exact Kd.V_nil _ _ _ _ _ | exact Kd.Q_nil _ _ _ _ _ | exact Kd.S_nil _ _ _ _ _, by repeat (first | (with_reducible first | exact HB.out | apply below_alloc | apply pw_below_drewN | apply below_drew1) | exact HB.out)⟩
                · rw [if_neg c13] at H
                  have c13b0 : ((Int.tmod t221 2) == 1) = false := beq_eq_false_iff_ne.mpr c13
                  have c13b1 : ((Int.tmod t221 2) != 1) = true := bne_iff_ne.mpr c13
                  (first | rw [c13b0] | (simp only [i64_w, i32_w]; rw [c13b0]) | skip)
                  have H' := Aside0.mk H
                  clear H
                  go_wp2
                  go_meet
                  case rel => exact ⟨_, (y224), (0), (by first | rfl | (simp; done) | (simp [*]; done)), H', ⟨by have := HK1.out; first | omega | exact Nat.le_refl _⟩, ⟨by (with_reducible repeat (first | apply Kd.V_alloc | apply Kd.V_drewN | apply Kd.V_drew)); exact HO228.out⟩, ⟨by (with_reducible repeat (first | apply Kd.R_alloc | apply Kd.R_drewN | apply Kd.R_drew)); exact HO_8.out⟩, ⟨by repeat (first | (with_reducible first | exact HB.out | apply below_alloc | apply pw_below_drewN | apply below_drew1) | exact HB.out)⟩⟩
              case rest =>
                clear HC10
                try clear c1
                try clear q1
                try clear p2
                try clear c3
                try clear c5
                try clear c5b0
                try clear c5b1
                try clear c7
                try clear c7b0
                try clear c7b1
                try clear c8
                try clear c8b0
                try clear c8b1
                try clear c9
                try clear c9b0
                try clear c9b1
                try clear c12
                try clear q12
                try clear c13
                try clear c13b0
                try clear c13b1
                try clear c15
                try clear c15b0
                try clear c15b1
                try clear c16
                try clear c16b0
                try clear c16b1
                try clear c17
                try clear c17b0
                try clear c17b1
                try clear c18
                try clear q18
                try clear p2
                try clear q012
                try clear q018
                try clear q12
                try clear q18
                obtain ⟨kq, x1_9, x13_9, rfl, HA, HJ9, HO_1, HO_8, HB⟩ := hcut
                cases kq with
                | zero => exact absurd HA.out (by simp [repriseref5_Apply.j1])
                | succ kj9 =>
                  have H := HA.out
                  clear HA
                  simp only [repriseref5_Apply.j1] at H
                  by_cases c19 : (IntKind.u64.wrap (Int.tdiv t221 2)) = 0
                  · rw [if_pos c19] at H
                    have c19b0 : ((IntKind.u64.wrap (Int.tdiv t221 2)) == 0) = true := beq_iff_eq.mpr c19
                    have c19b1 : ((IntKind.u64.wrap (Int.tdiv t221 2)) != 0) = false := bne_eq_false_iff_eq.mpr c19
                    clear c19
                    simp only [Option.some.injEq, Prod.mk.injEq] at H
                    obtain ⟨rfl, rfl⟩ := H
                    go_wp2
                    go_ret2
                    exact ⟨_, by first | rfl | (simp [errW_none, errW_some] <;> rfl) | (simp only [← hji4]; first | rfl | (simp [errW_none, errW_some] <;> rfl)) | (simp [*, errW_none, errW_some] <;> rfl), by first | exact Kd.R_nil _ _ _ _ _ | exact Kd.N_nil _ _ _ _ _ | exact Kd.V_nil _ _ _ _ _ | exact Kd.Q_nil _ _ _ _ _ | exact Kd.S_nil _ _ _ _ _, by repeat (first | (with_reducible first | exact HB.out | apply below_alloc | apply pw_below_drewN | apply below_drew1) | exact HB.out)⟩
                  · rw [if_neg c19] at H
                    have c19b0 : ((IntKind.u64.wrap (Int.tdiv t221 2)) == 0) = false := beq_eq_false_iff_ne.mpr c19
                    have c19b1 : ((IntKind.u64.wrap (Int.tdiv t221 2)) != 0) = true := bne_iff_ne.mpr c19
                    by_cases c20 : (IntKind.u64.wrap (Int.tdiv t221 2)) > x9_1
                    · rw [if_pos c20] at H
                      have c20b0 : decide (x9_1 < (IntKind.u64.wrap (Int.tdiv t221 2))) = true := decide_eq_true c20
                      clear c20
                      simp only [Option.some.injEq, Prod.mk.injEq] at H
                      obtain ⟨rfl, rfl⟩ := H
                      go_wp2
                      go_ret2
                      exact ⟨_, by first | rfl | (simp [errW_none, errW_some] <;> rfl) | (simp only [← hji4]; first | rfl | (simp [errW_none, errW_some] <;> rfl)) | (simp [*, errW_none, errW_some] <;> rfl), by first | exact Kd.R_nil _ _ _ _ _ | exact Kd.N_nil _ _ _ _ _ | exact Kd.V_nil _ _ _ _ _ | exact Kd.Q_nil _ _ _ _ _ | exact Kd.S_nil _ _ _ _ _, by repeat (first | (with_reducible first | exact HB.out | apply below_alloc | apply pw_below_drewN | apply below_drew1) | exact HB.out)⟩
                    · rw [if_neg c20] at H
                      have c20b0 : decide (x9_1 < (IntKind.u64.wrap (Int.tdiv t221 2))) = false := decide_eq_false c20
                      clear c20
                      have HC21 := Aside0.mk H
                      clear H
                      go_upto_region 19 with (fail)
                      go_cut [57] (fun v57 wc => ∃ (kq : Nat) (x57_20 : Bool), v57 = .bool x57_20 ∧ Aside0 (repriseref5_Apply.j2 kq l0 x1_9 x8_1 x9_1 t221 x13_9 (IntKind.u64.wrap (Int.tdiv t221 2)) x57_20 = some (r1, r2)) ∧ Aside0 (kq ≤ kj9) ∧ Aside0 (Kd.V (Kd.int .u8) 5 wc w.heap.size (fun k_ => (P1_ k_ ∨ w.heap.size ≤ k_) ∧ some k_ ≠ (u8 : Value).ownBlock) u1 x1_9) ∧ Aside0 (Kd.R (Kd.int .u8) 5 wc w.heap.size (fun k_ => (w.heap.size ≤ k_)) u8 x8_1) ∧ Aside0 (Below w.heap.size w wc))
                      case first =>
                        have H := HC21.out
                        clear HC21
                        by_cases c22 : (Int.tmod t221 2) = 0
                        · rw [if_pos c22] at H
                          have c22b0 : ((Int.tmod t221 2) == 0) = true := beq_iff_eq.mpr c22
                          have c22b1 : ((Int.tmod t221 2) != 0) = false := bne_eq_false_iff_eq.mpr c22
                          clear c22
                          (first | rw [c22b0] | (simp only [i64_w, i32_w]; rw [c22b0]) | skip)
                          have H' := Aside0.mk H
                          clear H
                          obtain ⟨Ao23, co23, eo23⟩ := Kd.V_slice HO_1.out
                          subst eo23
                          go_wp2
                          go_meet
                          case rel => exact ⟨_, (decide ((IntKind.u64.wrap (Int.tdiv t221 2)) > (IntKind.u64.wrap ((x1_9.length : Int))))), (by first | rfl | (simp; done) | (simp [*]; done)), H', ⟨by have := HK1.out; have := HJ9.out; first | omega | exact Nat.le_refl _⟩, ⟨by (with_reducible repeat (first | apply Kd.V_alloc | apply Kd.V_drewN | apply Kd.V_drew)); exact HO_1.out⟩, ⟨by (with_reducible repeat (first | apply Kd.R_alloc | apply Kd.R_drewN | apply Kd.R_drew)); exact HO_8.out⟩, ⟨by repeat (first | (with_reducible first | exact HB.out | apply below_alloc | apply pw_below_drewN | apply below_drew1) | exact HB.out)⟩⟩
                        · rw [if_neg c22] at H
                          have c22b0 : ((Int.tmod t221 2) == 0) = false := beq_eq_false_iff_ne.mpr c22
                          have c22b1 : ((Int.tmod t221 2) != 0) = true := bne_iff_ne.mpr c22
                          (first | rw [c22b0] | (simp only [i64_w, i32_w]; rw [c22b0]) | skip)
                          have H' := Aside0.mk H
                          clear H
                          go_wp2
                          go_meet
                          case rel => exact ⟨_, (false), (by first | rfl | (simp; done) | (simp [*]; done)), H', ⟨by have := HK1.out; have := HJ9.out; first | omega | exact Nat.le_refl _⟩, ⟨by (with_reducible repeat (first | apply Kd.V_alloc | apply Kd.V_drewN | apply Kd.V_drew)); exact HO_1.out⟩, ⟨by (with_reducible repeat (first | apply Kd.R_alloc | apply Kd.R_drewN | apply Kd.R_drew)); exact HO_8.out⟩, ⟨by repeat (first | (with_reducible first | exact HB.out | apply below_alloc | apply pw_below_drewN | apply below_drew1) | exact HB.out)⟩⟩
                      case rest =>
                        clear HC21
                        try clear c1
                        try clear q1
                        try clear c2
                        try clear p2
                        try clear c3
                        try clear c5
                        try clear c5b0
                        try clear c5b1
                        try clear c7
                        try clear c7b0
                        try clear c7b1
                        try clear c8
                        try clear c8b0
                        try clear c8b1
                        try clear c9
                        try clear c9b0
                        try clear c9b1
                        try clear c12
                        try clear q12
                        try clear c13
                        try clear c13b0
                        try clear c13b1
                        try clear c15
                        try clear c15b0
                        try clear c15b1
                        try clear c16
                        try clear c16b0
                        try clear c16b1
                        try clear c17
                        try clear c17b0
                        try clear c17b1
                        try clear c18
                        try clear q18
                        try clear c19
                        try clear c19b0
                        try clear c19b1
                        try clear c20
                        try clear c20b0
                        try clear c22
                        try clear c22b0
                        try clear c22b1
                        try clear p2
                        try clear q012
                        try clear q018
                        try clear q1
                        try clear q12
                        try clear q18
                        obtain ⟨kq, x57_20, rfl, HA, HJ20, HO_1, HO_8, HB⟩ := hcut
                        cases kq with
                        | zero => exact absurd HA.out (by simp [repriseref5_Apply.j2])
                        | succ kj20 =>
                          have H := HA.out
                          clear HA
                          simp only [repriseref5_Apply.j2] at H
                          by_cases c24 : x57_20 = true
                          · subst c24
                            have H1 : (some (([] : List Int), 22)) = some (r1, r2) := by rw [if_pos rfl] at H; exact H
                            clear H
                            have H := H1
                            clear H1
                            simp only [Option.some.injEq, Prod.mk.injEq] at H
                            obtain ⟨rfl, rfl⟩ := H
                            go_wp2
                            go_ret2
                            exact ⟨_, by first | rfl | (simp [errW_none, errW_some] <;> rfl) | (simp only [← hji4]; first | rfl | (simp [errW_none, errW_some] <;> rfl)) | (simp [*, errW_none, errW_some] <;> rfl), by first | exact Kd.R_nil _ _ _ _ _ | exact Kd.N_nil _ _ _ _ _ | exact Kd.V_nil _ _ _ _ _ | exact Kd.Q_nil _ _ _ _ _ | exact Kd.S_nil _ _ _ _ _, by repeat (first | (with_reducible first | exact HB.out | apply below_alloc | apply pw_below_drewN | apply below_drew1) | exact HB.out)⟩
                          · replace c24 := Bool.eq_false_iff.mpr c24
                            subst c24
                            have H1 : (if (Int.tmod t221 2) = 1 then (if x13_9 > (IntKind.u64.wrap ((l0.length : Int))) then (repriseref5_Apply.j3 kj20 l0 x1_9 x8_1 x9_1 t221 x13_9 (IntKind.u64.wrap (Int.tdiv t221 2)) true) else (repriseref5_Apply.j3 kj20 l0 x1_9 x8_1 x9_1 t221 x13_9 (IntKind.u64.wrap (Int.tdiv t221 2)) (decide ((IntKind.u64.wrap (Int.tdiv t221 2)) > (IntKind.u64.wrap ((IntKind.u64.wrap ((l0.length : Int))) - x13_9)))))) else (repriseref5_Apply.j3 kj20 l0 x1_9 x8_1 x9_1 t221 x13_9 (IntKind.u64.wrap (Int.tdiv t221 2)) false)) = some (r1, r2) := by rw [if_neg (show ¬ (false = true) by decide)] at H; exact H
                            clear H
                            have H := H1
                            clear H1
                            have HC25 := Aside0.mk H
                            clear H
                            go_upto_region 21 with (fail)
                            go_cut [68] (fun v68 wc => ∃ (kq : Nat) (x68_24 : Bool), v68 = .bool x68_24 ∧ Aside0 (repriseref5_Apply.j3 kq l0 x1_9 x8_1 x9_1 t221 x13_9 (IntKind.u64.wrap (Int.tdiv t221 2)) x68_24 = some (r1, r2)) ∧ Aside0 (kq ≤ kj20) ∧ Aside0 (Kd.V (Kd.int .u8) 5 wc w.heap.size (fun k_ => (P1_ k_ ∨ w.heap.size ≤ k_) ∧ some k_ ≠ (u8 : Value).ownBlock) u1 x1_9) ∧ Aside0 (Kd.R (Kd.int .u8) 5 wc w.heap.size (fun k_ => (w.heap.size ≤ k_)) u8 x8_1) ∧ Aside0 (Below w.heap.size w wc))
                            case first =>
                              have H := HC25.out
                              clear HC25
                              by_cases c26 : (Int.tmod t221 2) = 1
                              · rw [if_pos c26] at H
                                have c26b0 : ((Int.tmod t221 2) == 1) = true := beq_iff_eq.mpr c26
                                have c26b1 : ((Int.tmod t221 2) != 1) = false := bne_eq_false_iff_eq.mpr c26
                                clear c26
                                (first | rw [c26b0] | (simp only [i64_w, i32_w]; rw [c26b0]) | skip)
                                by_cases c27 : x13_9 > (IntKind.u64.wrap ((l0.length : Int)))
                                · rw [if_pos c27] at H
                                  have c27b0 : decide ((IntKind.u64.wrap ((l0.length : Int))) < x13_9) = true := decide_eq_true c27
                                  clear c27
                                  have H' := Aside0.mk H
                                  clear H
                                  go_wp2
                                  go_meet
                                  case rel => exact ⟨_, (true), (by first | rfl | (simp; done) | (simp [*]; done)), H', ⟨by have := HK1.out; have := HJ9.out; have := HJ20.out; first | omega | exact Nat.le_refl _⟩, ⟨by (with_reducible repeat (first | apply Kd.V_alloc | apply Kd.V_drewN | apply Kd.V_drew)); exact HO_1.out⟩, ⟨by (with_reducible repeat (first | apply Kd.R_alloc | apply Kd.R_drewN | apply Kd.R_drew)); exact HO_8.out⟩, ⟨by repeat (first | (with_reducible first | exact HB.out | apply below_alloc | apply pw_below_drewN | apply below_drew1) | exact HB.out)⟩⟩
                                · rw [if_neg c27] at H
                                  have c27b0 : decide ((IntKind.u64.wrap ((l0.length : Int))) < x13_9) = false := decide_eq_false c27
                                  clear c27
                                  have H' := Aside0.mk H
                                  clear H
                                  go_wp2
                                  go_meet
                                  case rel => exact ⟨_, (decide ((IntKind.u64.wrap (Int.tdiv t221 2)) > (IntKind.u64.wrap ((IntKind.u64.wrap ((l0.length : Int))) - x13_9)))), (by first | rfl | (simp; done) | (simp [*]; done)), H', ⟨by have := HK1.out; have := HJ9.out; have := HJ20.out; first | omega | exact Nat.le_refl _⟩, ⟨by (with_reducible repeat (first | apply Kd.V_alloc | apply Kd.V_drewN | apply Kd.V_drew)); exact HO_1.out⟩, ⟨by (with_reducible repeat (first | apply Kd.R_alloc | apply Kd.R_drewN | apply Kd.R_drew)); exact HO_8.out⟩, ⟨by repeat (first | (with_reducible first | exact HB.out | apply below_alloc | apply pw_below_drewN | apply below_drew1) | exact HB.out)⟩⟩
                              · rw [if_neg c26] at H
                                have c26b0 : ((Int.tmod t221 2) == 1) = false := beq_eq_false_iff_ne.mpr c26
                                have c26b1 : ((Int.tmod t221 2) != 1) = true := bne_iff_ne.mpr c26
                                (first | rw [c26b0] | (simp only [i64_w, i32_w]; rw [c26b0]) | skip)
                                have H' := Aside0.mk H
                                clear H
                                go_wp2
                                go_meet
                                case rel => exact ⟨_, (false), (by first | rfl | (simp; done) | (simp [*]; done)), H', ⟨by have := HK1.out; have := HJ9.out; have := HJ20.out; first | omega | exact Nat.le_refl _⟩, ⟨by (with_reducible repeat (first | apply Kd.V_alloc | apply Kd.V_drewN | apply Kd.V_drew)); exact HO_1.out⟩, ⟨by (with_reducible repeat (first | apply Kd.R_alloc | apply Kd.R_drewN | apply Kd.R_drew)); exact HO_8.out⟩, ⟨by repeat (first | (with_reducible first | exact HB.out | apply below_alloc | apply pw_below_drewN | apply below_drew1) | exact HB.out)⟩⟩
                            case rest =>
                              clear HC25
                              try clear c1
                              try clear q1
                              try clear c2
                              try clear p2
                              try clear c3
                              try clear c5
                              try clear c5b0
                              try clear c5b1
                              try clear c7
                              try clear c7b0
                              try clear c7b1
                              try clear c8
                              try clear c8b0
                              try clear c8b1
                              try clear c9
                              try clear c9b0
                              try clear c9b1
                              try clear c12
                              try clear q12
                              try clear c13
                              try clear c13b0
                              try clear c13b1
                              try clear c15
                              try clear c15b0
                              try clear c15b1
                              try clear c16
                              try clear c16b0
                              try clear c16b1
                              try clear c17
                              try clear c17b0
                              try clear c17b1
                              try clear c18
                              try clear q18
                              try clear c19
                              try clear c19b0
                              try clear c19b1
                              try clear c20
                              try clear c20b0
                              try clear c22
                              try clear c22b0
                              try clear c22b1
                              try clear c24
                              try clear c26
                              try clear c26b0
                              try clear c26b1
                              try clear c27
                              try clear c27b0
                              try clear p2
                              try clear q012
                              try clear q018
                              try clear q1
                              try clear q12
                              try clear q18
                              obtain ⟨kq, x68_24, rfl, HA, HJ24, HO_1, HO_8, HB⟩ := hcut
                              cases kq with
                              | zero => exact absurd HA.out (by simp [repriseref5_Apply.j3])
                              | succ kj24 =>
                                have H := HA.out
                                clear HA
                                simp only [repriseref5_Apply.j3] at H
                                by_cases c28 : x68_24 = true
                                · subst c28
                                  have H1 : (some (([] : List Int), 21)) = some (r1, r2) := by rw [if_pos rfl] at H; exact H
                                  clear H
                                  have H := H1
                                  clear H1
                                  simp only [Option.some.injEq, Prod.mk.injEq] at H
                                  obtain ⟨rfl, rfl⟩ := H
                                  go_wp2
                                  go_ret2
                                  exact ⟨_, by first | rfl | (simp [errW_none, errW_some] <;> rfl) | (simp only [← hji4]; first | rfl | (simp [errW_none, errW_some] <;> rfl)) | (simp [*, errW_none, errW_some] <;> rfl), by first | exact Kd.R_nil _ _ _ _ _ | exact Kd.N_nil _ _ _ _ _ | exact Kd.V_nil _ _ _ _ _ | exact Kd.Q_nil _ _ _ _ _ | exact Kd.S_nil _ _ _ _ _, by repeat (first | (with_reducible first | exact HB.out | apply below_alloc | apply pw_below_drewN | apply below_drew1) | exact HB.out)⟩
                                · replace c28 := Bool.eq_false_iff.mpr c28
                                  subst c28
                                  have H1 : (if (Int.tmod t221 2) = 0 then (if 0 ≤ (IntKind.u64.wrap (Int.tdiv t221 2)) then (if (IntKind.u64.wrap (Int.tdiv t221 2)) ≤ (x1_9.length : Int) then ((some (x1_9.take ((IntKind.u64.wrap (Int.tdiv t221 2)) : Int).toNat : List Int)).bind fun y237 => (if x8_1.length + y237.length < 140737488355328 then (repriseref5_Apply.l0 kj24 l0 (x1_9.drop ((IntKind.u64.wrap (Int.tdiv t221 2)) : Int).toNat) (x8_1 ++ y237) (IntKind.u64.wrap (x9_1 - (IntKind.u64.wrap (Int.tdiv t221 2))))) else (none))) else (none)) else (none)) else (if 0 ≤ x13_9 then (if x13_9 ≤ (IntKind.u64.wrap (x13_9 + (IntKind.u64.wrap (Int.tdiv t221 2)))) then (if (IntKind.u64.wrap (x13_9 + (IntKind.u64.wrap (Int.tdiv t221 2)))) ≤ (l0.length : Int) then (if x8_1.length + ((l0.take ((IntKind.u64.wrap (x13_9 + (IntKind.u64.wrap (Int.tdiv t221 2)))) : Int).toNat).drop (x13_9 : Int).toNat).length < 140737488355328 then (repriseref5_Apply.l0 kj24 l0 x1_9 (x8_1 ++ ((l0.take ((IntKind.u64.wrap (x13_9 + (IntKind.u64.wrap (Int.tdiv t221 2)))) : Int).toNat).drop (x13_9 : Int).toNat)) (IntKind.u64.wrap (x9_1 - (IntKind.u64.wrap (Int.tdiv t221 2))))) else (none)) else (none)) else (none)) else (none))) = some (r1, r2) := by rw [if_neg (show ¬ (false = true) by decide)] at H; exact H
                                  clear H
                                  have H := H1
                                  clear H1
                                  by_cases c29 : (Int.tmod t221 2) = 0
                                  · rw [if_pos c29] at H
                                    have c29b0 : ((Int.tmod t221 2) == 0) = true := beq_iff_eq.mpr c29
                                    have c29b1 : ((Int.tmod t221 2) != 0) = false := bne_eq_false_iff_eq.mpr c29
                                    clear c29
                                    obtain ⟨ji30, hji30⟩ : ∃ j_ : Int, (IntKind.u64.wrap (Int.tdiv t221 2)) = j_ := ⟨_, rfl⟩
                                    replace H : (if 0 ≤ (ji30) then (if (ji30) ≤ (x1_9.length : Int) then ((some (x1_9.take ((ji30) : Int).toNat : List Int)).bind fun y237 => (if x8_1.length + y237.length < 140737488355328 then (repriseref5_Apply.l0 kj24 l0 (x1_9.drop ((ji30) : Int).toNat) (x8_1 ++ y237) (IntKind.u64.wrap (x9_1 - (ji30)))) else (none))) else (none)) else (none)) = some (r1, r2) := by first | (rw [hji30] at H; exact H) | (simp only [hji30] at H ⊢; exact H)
                                    (try rw [hji30] at c19b0)
                                    (try rw [hji30] at c19b1)
                                    (try rw [hji30] at c20b0)
                                    by_cases c31 : 0 ≤ (ji30)
                                    · rw [if_pos c31] at H
                                      have c31b0 := eq_true c31
                                      have c31b1 : decide (0 ≤ (ji30)) = true := decide_eq_true c31
                                      clear c31
                                      by_cases c32 : (ji30) ≤ (x1_9.length : Int)
                                      · rw [if_pos c32] at H
                                        have c32b0 := eq_true c32
                                        have c32b1 : decide ((ji30) ≤ (x1_9.length : Int)) = true := decide_eq_true c32
                                        clear c32
                                        obtain ⟨y237, hy237⟩ : ∃ y_ : List Int, y_ = (x1_9.take ((ji30) : Int).toNat) := ⟨_, rfl⟩
                                        replace H : (if x8_1.length + y237.length < 140737488355328 then (repriseref5_Apply.l0 kj24 l0 (x1_9.drop ((ji30) : Int).toNat) (x8_1 ++ y237) (IntKind.u64.wrap (x9_1 - (ji30)))) else (none)) = some (r1, r2) := by first | (rw [hy237]; with_reducible exact H) | (have H2_ := (Option.bind_some _ _).symm.trans H; rw [hy237]; with_reducible exact H2_) | (have H2_ := (Option.bind_some _ _).symm.trans H; with_reducible exact H2_) | with_reducible exact H | (rw [hy237]; exact H) | exact H
                                        have Ny237 := Aside0.mk hy237
                                        clear hy237
                                        by_cases c33 : x8_1.length + y237.length < 140737488355328
                                        · rw [if_pos c33] at H
                                          have LMc33 := Aside0.mk c33
                                          clear c33
                                          obtain ⟨y242, hy242⟩ : ∃ y_ : List Int, y_ = (x8_1 ++ y237) := ⟨_, rfl⟩
                                          replace H : (repriseref5_Apply.l0 kj24 l0 (x1_9.drop ((ji30) : Int).toNat) y242 (IntKind.u64.wrap (x9_1 - (ji30)))) = some (r1, r2) := by first | (rw [hy242]; with_reducible exact H) | (have H2_ := (Option.bind_some _ _).symm.trans H; rw [hy242]; with_reducible exact H2_) | (have H2_ := (Option.bind_some _ _).symm.trans H; with_reducible exact H2_) | with_reducible exact H | (rw [hy242]; exact H) | exact H
                                          have Ny242 := Aside0.mk hy242
                                          clear hy242
                                          have c34b0 := eq_true (of_decide_eq_true (by first | (with_reducible assumption) | assumption) : 0 ≤ (ji30))
                                          have c35b0 := eq_true (of_decide_eq_true (by first | (with_reducible assumption) | assumption) : (ji30) ≤ (x1_9.length : Int))
                                          obtain ⟨y245, hy245⟩ : ∃ y_ : List Int, y_ = (x1_9.drop ((ji30) : Int).toNat) := ⟨_, rfl⟩
                                          replace H : (repriseref5_Apply.l0 kj24 l0 y245 y242 (IntKind.u64.wrap (x9_1 - (ji30)))) = some (r1, r2) := by first | (rw [hy245]; with_reducible exact H) | (have H2_ := (Option.bind_some _ _).symm.trans H; rw [hy245]; with_reducible exact H2_) | (have H2_ := (Option.bind_some _ _).symm.trans H; with_reducible exact H2_) | with_reducible exact H | (rw [hy245]; exact H) | exact H
                                          have Ny245 := Aside0.mk hy245
                                          clear hy245
                                          have H' := Aside0.mk H
                                          clear H
                                          obtain ⟨Ao37, co37, eo37⟩ := Kd.V_slice HO_1.out
                                          subst eo37
                                          have q36 : ((ji30) : Int) ≤ ((x1_9.length : Int) : Int) := of_decide_eq_true (by first | (with_reducible assumption) | assumption)
                                          obtain ⟨i036, hi036, _, hsz36, _⟩ := info_parts info5
                                          have hroom36 : x1_9.length ≤ co37 := (Kd.V_reads' HO_1.out).2.1
                                          have hC36 : Kd.F (Kd.int .u8) _ _ Ao37 x1_9.length x1_9 := (Kd.V_at (base := w.heap.size) HO_1.out).2.2
                                          have hcut36 := cut_to (P := Try.prog) 22 5 .u64 Try.underlying22 hi036 Ao37 x1_9.length co37 (ji30) (of_decide_eq_true (by first | (with_reducible assumption) | assumption)) q36 hroom36
                                          have hr36 := Kd.F_take (m := ((ji30) : Int).toNat) hC36 (by omega)
                                          have hy36 : y237.length = ((ji30) : Int).toNat := (by rw [Ny237.out, List.length_take]; omega)
                                          rw [← Ny237.out] at hr36
                                          rw [← hy36] at hcut36
                                          have HO241 := Aside0.mk (show Kd.V (Kd.int .u8) 5 _ w.heap.size _ (.slice Ao37 y237.length co37) y237 from Kd.V_mk (by omega) hr36)
                                          have HC241 := Aside0.mk (show y237.length ≤ co37 from by omega)
                                          clear hr36 hC36 hroom36 hi036 hsz36
                                          have KY36 := Aside0.mk hy36
                                          clear hy36
                                          replace q36 := eq_true q36
                                          go_wp2_with (first | ((with_reducible refine gate_builtin (b := .append) (xs := #[.tmp 94, .tmp 97]) rfl ?_); (try (refine gate_guard (by rfl) ?_; dsimp only)); at_builtin; refine Kd.R_append_rows (Kd.int .u8) (w0 := w) w.heap.size rfl (.tmp 94) (.tmp 97) 22 5 (.int .u8 0) 1 rfl Try.underlying22 info5 rfl (by decide) (by omega) u8 x8_1 y237 _ _ _ (fun k_ => (w.heap.size ≤ k_)) (fun _ => False) rfl rfl ?aO ?aR (fun _ _ h => h) (fun _ h => h.elim) ?aF ?aB ?aS ?aL ?_; (case aR => repeat (first | exact (Kd.V_reads' HO241.out).2.2 | (with_reducible refine Kd.C_alloc ?_ _) | (with_reducible refine Kd.C_drewN ?_ _) | (with_reducible refine Kd.C_drew ?_))); (case aB => exact (by repeat (first | (with_reducible first | exact HB.out | apply below_alloc | apply pw_below_drewN | apply below_drew1) | exact HB.out))); (case aF => exact (fun k_ hk => (Nat.le_trans (below_size (by repeat (first | (with_reducible first | exact HB.out | apply below_alloc | apply pw_below_drewN | apply below_drew1) | exact HB.out))) hk))); (case aO => exact (by (with_reducible repeat (first | apply Kd.R_alloc | apply Kd.R_drewN | apply Kd.R_drew)); exact HO_8.out)); (case aS => exact (below_size (by repeat (first | (with_reducible first | exact HB.out | apply below_alloc | apply pw_below_drewN | apply below_drew1) | exact HB.out)))); (case aL => have := LMc33.out; omega); intro v243 w38 ho hb hg hat; rw [← Ny242.out] at ho; have n0_ := Aside0.mk (Kd.V_afterv (ok := (fun k_ => (P1_ k_ ∨ w.heap.size ≤ k_))) (by (with_reducible repeat (first | apply Kd.V_alloc | apply Kd.V_drewN | apply Kd.V_drew)); exact HO_1.out) hg hat); have n1_ := Aside0.mk (Kd.V_afterv (ok := (fun k_ => (P1_ k_ ∨ w.heap.size ≤ k_))) (by (with_reducible repeat (first | apply Kd.V_alloc | apply Kd.V_drewN | apply Kd.V_drew)); exact HO241.out) hg hat); have n2_ := Aside0.mk (hb); have n3_ := Aside0.mk (ho); clear HO_1; clear HO241; clear HB; clear HO_8; have HO_1 := n0_; have HO241 := n1_; have HB := n2_; have HO244 := n3_; clear n0_ n1_ n2_ n3_; clear ho hb hg hat; have q39 : ((ji30) : Int) ≤ ((x1_9.length : Int) : Int) := of_decide_eq_true (by first | (with_reducible assumption) | assumption); obtain ⟨i039, hi039, _, hsz39, _⟩ := info_parts info5; have hroom39 : x1_9.length ≤ co37 := (Kd.V_reads' HO_1.out).2.1; have hC39 : Kd.F (Kd.int .u8) _ _ Ao37 x1_9.length x1_9 := (Kd.V_at (base := w.heap.size) HO_1.out).2.2; have q039 : (0 : Int) ≤ ((ji30) : Int) := of_decide_eq_true (by first | (with_reducible assumption) | assumption); have hcut39 := cut_from (P := Try.prog) 22 5 .u64 Try.underlying22 hi039 1 hsz39 Ao37 x1_9.length co37 (ji30) q039 q39; have hr39 := Kd.F_cut (m := ((ji30) : Int).toNat) (c := co37) hC39 (by omega) hroom39; obtain ⟨A39, hA39⟩ : ∃ A1, A1 = (if co37 = ((ji30) : Int).toNat then Ao37 else (Ao37 : Option Addr).map (·.add (((ji30) : Int).toNat * 1))) := ⟨_, rfl⟩; obtain ⟨c39, hc39⟩ : ∃ c1, c1 = co37 - ((ji30) : Int).toNat := ⟨_, rfl⟩; have hy39 : y245.length = x1_9.length - ((ji30) : Int).toNat := (by rw [Ny245.out, List.length_drop] <;> omega); rw [show (x1_9).drop ((ji30) : Int).toNat = y245 from Ny245.out.symm] at hr39; replace hr39 : Kd.F (Kd.int .u8) _ _ A39 y245.length y245 := (by rw [hA39]; exact hr39); rw [← hy39, ← hA39, ← hc39] at hcut39; have HO249 := Aside0.mk (show Kd.V (Kd.int .u8) 5 _ w.heap.size _ (.slice A39 y245.length c39) y245 from Kd.V_mk (by rw [hy39, hc39]; exact Nat.sub_le_sub_right hroom39 _) hr39); have HC249 := Aside0.mk (show y245.length ≤ c39 from by rw [hy39, hc39]; exact Nat.sub_le_sub_right hroom39 _); clear hr39 hC39 hroom39 hi039 hsz39 hc39; have KY39 := Aside0.mk hy39; have KA39 := Aside0.mk hA39; clear hy39 hA39; replace q39 := eq_true q39))
                                          go_roundg kj24
                                          case measure => have := HK1.out; have := HJ9.out; have := HJ20.out; have := HJ24.out; omega
                                          case rel => exact ⟨(y245), (y242), (IntKind.u64.wrap (x9_1 - (ji30))), (by first | rfl | (simp; done) | (simp only [← hji30] <;> (first | rfl | simp)) | (simp [*]; done)), H', ⟨by have := HK1.out; have := HJ9.out; have := HJ20.out; have := HJ24.out; omega⟩, ⟨by (with_reducible repeat (first | apply Kd.V_alloc | apply Kd.V_drewN | apply Kd.V_drew)); exact HO249.out⟩, ⟨by (with_reducible repeat (first | apply Kd.R_alloc | apply Kd.R_drewN | apply Kd.R_drew)); exact HO244.out⟩, ⟨by repeat (first | (with_reducible first | exact HB.out | apply below_alloc | apply pw_below_drewN | apply below_drew1) | exact HB.out)⟩⟩
                                        · rw [if_neg c33] at H
                                          exact absurd H (by simp)
                                      · rw [if_neg c32] at H
                                        exact absurd H (by simp)
                                    · rw [if_neg c31] at H
                                      exact absurd H (by simp)
                                  · rw [if_neg c29] at H
                                    have c29b0 : ((Int.tmod t221 2) == 0) = false := beq_eq_false_iff_ne.mpr c29
                                    have c29b1 : ((Int.tmod t221 2) != 0) = true := bne_iff_ne.mpr c29
                                    by_cases c40 : 0 ≤ x13_9
                                    · rw [if_pos c40] at H
                                      have c40b0 := eq_true c40
                                      have c40b1 : decide (0 ≤ x13_9) = true := decide_eq_true c40
                                      clear c40
                                      by_cases c41 : x13_9 ≤ (IntKind.u64.wrap (x13_9 + (IntKind.u64.wrap (Int.tdiv t221 2))))
                                      · rw [if_pos c41] at H
                                        have c41b0 := eq_true c41
                                        have c41b1 : decide (x13_9 ≤ (IntKind.u64.wrap (x13_9 + (IntKind.u64.wrap (Int.tdiv t221 2))))) = true := decide_eq_true c41
                                        by_cases c42 : (IntKind.u64.wrap (x13_9 + (IntKind.u64.wrap (Int.tdiv t221 2)))) ≤ (l0.length : Int)
                                        · rw [if_pos c42] at H
                                          have c42b0 := eq_true c42
                                          have c42b1 : decide ((IntKind.u64.wrap (x13_9 + (IntKind.u64.wrap (Int.tdiv t221 2)))) ≤ (l0.length : Int)) = true := decide_eq_true c42
                                          by_cases c43 : x8_1.length + ((l0.take ((IntKind.u64.wrap (x13_9 + (IntKind.u64.wrap (Int.tdiv t221 2)))) : Int).toNat).drop (x13_9 : Int).toNat).length < 140737488355328
                                          · rw [if_pos c43] at H
                                            have LMc43 := Aside0.mk c43
                                            clear c43
                                            obtain ⟨y251, hy251⟩ : ∃ y_ : List Int, y_ = (x8_1 ++ ((l0.take ((IntKind.u64.wrap (x13_9 + (IntKind.u64.wrap (Int.tdiv t221 2)))) : Int).toNat).drop (x13_9 : Int).toNat)) := ⟨_, rfl⟩
                                            replace H : (repriseref5_Apply.l0 kj24 l0 x1_9 y251 (IntKind.u64.wrap (x9_1 - (IntKind.u64.wrap (Int.tdiv t221 2))))) = some (r1, r2) := by first | (rw [hy251]; with_reducible exact H) | (have H2_ := (Option.bind_some _ _).symm.trans H; rw [hy251]; with_reducible exact H2_) | (have H2_ := (Option.bind_some _ _).symm.trans H; with_reducible exact H2_) | with_reducible exact H | (rw [hy251]; exact H) | exact H
                                            have Ny251 := Aside0.mk hy251
                                            clear hy251
                                            have H' := Aside0.mk H
                                            clear H
                                            obtain ⟨i044, hi044, _, hsz44, _⟩ := info_parts info5
                                            obtain ⟨A44, hcut44, hA44, hC44⟩ := print_mid_of (P := Try.prog) (Value.int .u8) 0 22 5 .u64 .u64 Try.underlying22 hi044 hsz44 A0 c0 l0 x13_9 (IntKind.u64.wrap (x13_9 + (IntKind.u64.wrap (Int.tdiv t221 2)))) (of_decide_eq_true (by first | (with_reducible assumption) | assumption)) (by first | omega | exact of_decide_eq_true (by first | (with_reducible assumption) | assumption)) (of_decide_eq_true (by first | (with_reducible assumption) | assumption)) HC0.out
                                            have HR250 := Aside0.mk (Kd.C_of_reads (h1 := fun _ => rfl) (hA44 _ (Kd.reads_of_C HR0.out)))
                                            have HC250 := Aside0.mk hC44
                                            clear hA44 hC44 hi044 hsz44
                                            go_wp2_with (first | ((with_reducible refine gate_builtin (b := .append) (xs := #[.tmp 102, .tmp 108]) rfl ?_); (try (refine gate_guard (by rfl) ?_; dsimp only)); at_builtin; refine Kd.R_append_rows (Kd.int .u8) (w0 := w) w.heap.size rfl (.tmp 102) (.tmp 108) 22 5 (.int .u8 0) 1 rfl Try.underlying22 info5 rfl (by decide) (by omega) u8 x8_1 ((l0.take ((IntKind.u64.wrap (x13_9 + (IntKind.u64.wrap (Int.tdiv t221 2)))) : Int).toNat).drop (x13_9 : Int).toNat) _ _ _ (fun k_ => (w.heap.size ≤ k_)) (fun _ => False) rfl rfl ?aO ?aR (fun _ _ h => h) (fun _ h => h.elim) ?aF ?aB ?aS ?aL ?_; (case aR => first | (rw [← show ((l0.take ((IntKind.u64.wrap (x13_9 + (IntKind.u64.wrap (Int.tdiv t221 2)))) : Int).toNat).drop (x13_9 : Int).toNat).length = ((IntKind.u64.wrap (x13_9 + (IntKind.u64.wrap (Int.tdiv t221 2)))).toNat - x13_9.toNat) from (by rw [List.length_drop, List.length_take]; have h_ : ((IntKind.u64.wrap (x13_9 + (IntKind.u64.wrap (Int.tdiv t221 2)))) : Int) ≤ (l0.length : Int) := of_decide_eq_true (by first | (with_reducible assumption) | assumption); omega)]; repeat (first | exact (Kd.C_below HR250.out HB.out) | (with_reducible refine Kd.C_alloc ?_ _) | (with_reducible refine Kd.C_drewN ?_ _) | (with_reducible refine Kd.C_drew ?_))) | (repeat (first | exact (Kd.C_below HR250.out HB.out) | (with_reducible refine Kd.C_alloc ?_ _) | (with_reducible refine Kd.C_drewN ?_ _) | (with_reducible refine Kd.C_drew ?_)))); (case aB => exact (by repeat (first | (with_reducible first | exact HB.out | apply below_alloc | apply pw_below_drewN | apply below_drew1) | exact HB.out))); (case aF => exact (fun k_ hk => (Nat.le_trans (below_size (by repeat (first | (with_reducible first | exact HB.out | apply below_alloc | apply pw_below_drewN | apply below_drew1) | exact HB.out))) hk))); (case aO => exact (by (with_reducible repeat (first | apply Kd.R_alloc | apply Kd.R_drewN | apply Kd.R_drew)); exact HO_8.out)); (case aS => exact (below_size (by repeat (first | (with_reducible first | exact HB.out | apply below_alloc | apply pw_below_drewN | apply below_drew1) | exact HB.out)))); (case aL => have := LMc43.out; have hlx_ := (show ((l0.take ((IntKind.u64.wrap (x13_9 + (IntKind.u64.wrap (Int.tdiv t221 2)))) : Int).toNat).drop (x13_9 : Int).toNat).length = ((IntKind.u64.wrap (x13_9 + (IntKind.u64.wrap (Int.tdiv t221 2)))).toNat - x13_9.toNat) from (by rw [List.length_drop, List.length_take]; have h_ : ((IntKind.u64.wrap (x13_9 + (IntKind.u64.wrap (Int.tdiv t221 2)))) : Int) ≤ (l0.length : Int) := of_decide_eq_true (by first | (with_reducible assumption) | assumption); omega)); omega); intro v252 w45 ho hb hg hat; rw [← Ny251.out] at ho; have n0_ := Aside0.mk (Kd.V_afterv (ok := (fun k_ => (P1_ k_ ∨ w.heap.size ≤ k_))) (by (with_reducible repeat (first | apply Kd.V_alloc | apply Kd.V_drewN | apply Kd.V_drew)); exact HO_1.out) hg hat); have n1_ := Aside0.mk (hb); have n2_ := Aside0.mk (ho); clear HO_1; clear HB; clear HO_8; have HO_1 := n0_; have HB := n1_; have HO253 := n2_; clear n0_ n1_ n2_; clear ho hb hg hat))
                                            go_roundg kj24
                                            case measure => have := HK1.out; have := HJ9.out; have := HJ20.out; have := HJ24.out; omega
                                            case rel => exact ⟨(x1_9), (y251), (IntKind.u64.wrap (x9_1 - (IntKind.u64.wrap (Int.tdiv t221 2)))), (by first | rfl | (simp; done) | (simp [*]; done)), H', ⟨by have := HK1.out; have := HJ9.out; have := HJ20.out; have := HJ24.out; omega⟩, ⟨by (with_reducible repeat (first | apply Kd.V_alloc | apply Kd.V_drewN | apply Kd.V_drew)); exact HO_1.out⟩, ⟨by (with_reducible repeat (first | apply Kd.R_alloc | apply Kd.R_drewN | apply Kd.R_drew)); exact HO253.out⟩, ⟨by repeat (first | (with_reducible first | exact HB.out | apply below_alloc | apply pw_below_drewN | apply below_drew1) | exact HB.out)⟩⟩
                                          · rw [if_neg c43] at H
                                            exact absurd H (by simp)
                                        · rw [if_neg c42] at H
                                          exact absurd H (by simp)
                                      · rw [if_neg c41] at H
                                        exact absurd H (by simp)
                                    · rw [if_neg c40] at H
                                      exact absurd H (by simp)
            · rw [if_neg c9] at H
              exact absurd H (by simp)
          · rw [if_neg c8] at H
            exact absurd H (by simp)
        · rw [if_neg c7] at H
          have c7b0 : (t223 == 0) = false := beq_eq_false_iff_ne.mpr c7
          have c7b1 : (t223 != 0) = true := bne_iff_ne.mpr c7
          simp only [Option.some.injEq, Prod.mk.injEq] at H
          obtain ⟨rfl, rfl⟩ := H
          obtain ⟨Ao46, co46, eo46⟩ := Kd.V_slice HO_1.out
          subst eo46
          go_wp2_with (first | ((with_reducible refine gate_callee (f := 38) rfl ?_); refine goesL_ (some 23) rfl rfl Try.func38 (by kernel_rfl) rfl #[.slice Ao46 x1_1.length co46] rfl (by (try simp only [List.map_toArray, List.map_cons, List.map_nil]); first | done | rfl | (simp only [List.length_drop, List.length_take]; rfl)) ?_; (with_reducible refine (repriseref1_Read.calls k1 _ _ x1_1 t221 t222 t223 _ ?side1 ?side2 A6.out).mono ?_); (case side1 => repeat (first | exact (Kd.V_reads' HO_1.out).2.2 | (with_reducible refine Kd.C_alloc ?_ _) | (with_reducible refine Kd.C_drewN ?_ _) | (with_reducible refine Kd.C_drew ?_))); (case side2 => exact (Kd.V_reads' HO_1.out).2.1); rintro e w' ⟨rfl, ⟨nd, rfl⟩⟩; refine ⟨_, rfl, ?_⟩))
          go_ret2
          exact ⟨_, by first | rfl | (simp [errW_none, errW_some] <;> rfl) | (simp only [← hji4]; first | rfl | (simp [errW_none, errW_some] <;> rfl)) | (simp [*, errW_none, errW_some] <;> rfl), by first | exact Kd.R_nil _ _ _ _ _ | exact Kd.N_nil _ _ _ _ _ | exact Kd.V_nil _ _ _ _ _ | exact Kd.Q_nil _ _ _ _ _ | exact Kd.S_nil _ _ _ _ _, by repeat (first | (with_reducible first | exact HB.out | apply below_alloc | apply pw_below_drewN | apply below_drew1) | exact HB.out)⟩
      · rw [if_neg c5] at H
        have c5b0 : decide (0 < (x1_1.length : Int)) = false := decide_eq_false c5
        have c5b1 : decide (0 < x1_1.length) = false := decide_eq_false (by omega)
        clear c5
        simp only [Option.some.injEq, Prod.mk.injEq] at H
        obtain ⟨rfl, rfl⟩ := H
        obtain ⟨Ao47, co47, eo47⟩ := Kd.V_slice HO_1.out
        subst eo47
        go_wp2
        go_ret2
        exact ⟨_, by first | rfl | (simp [errW_none, errW_some] <;> rfl) | (simp only [← hji4]; first | rfl | (simp [errW_none, errW_some] <;> rfl)) | (simp [*, errW_none, errW_some] <;> rfl), by (with_reducible repeat (first | apply Kd.R_alloc | apply Kd.R_drewN | apply Kd.R_drew)); exact HO_8.out, by repeat (first | (with_reducible first | exact HB.out | apply below_alloc | apply pw_below_drewN | apply below_drew1) | exact HB.out)⟩

end Go.Proofs.Ytmaefdeigienjaa.QDeltaTells
