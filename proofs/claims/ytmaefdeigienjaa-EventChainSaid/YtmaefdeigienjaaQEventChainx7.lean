/- Lean functions for the Go functions that the law reaches, and proofs that each call comes to just what its Lean function tells; no condition. (Written by a program of this session.) -/
import Derived.Test.YtmaefdeigienjaaQEventChainx0
import Derived.Test.YtmaefdeigienjaaQEventChainx6
namespace Go.Proofs.Ytmaefdeigienjaa.QEventChain
open Go.RowKit Go.Proofs.YtmaefdeigienjaaW.PrintWords Go.Proofs.YtmaefdeigienjaaW.PrintLast Go.Proofs.YtmaefdeigienjaaW.PrintMore
attribute [local go_sem] max2_int min2_int max_two min_two max_three min_three max_four min_four   -- for this text's walks alone
set_option linter.unusedVariables false
set_option linter.unusedSimpArgs false

/-! ### repriseseat_Keys: function 32 -/
def repriseseat_Keys.l0 : Nat → List Int → List Int → List (S91) → Int → Option (List Int)
  | 0, _, _, _, _ => none
  | k + 1, x0, x3, x4, x5 => if x5 < (x0.length : Int) then (if 0 ≤ x5 then (if (wrap64 (rd x0 x5)) < (x4.length : Int) then (if 0 ≤ (wrap64 (rd x0 x5)) then (if x3.length + ((rd_T91 x4 (wrap64 (rd x0 x5))).f0).length < 140737488355328 then (repriseseat_Keys.l0 k x0 (x3 ++ ((rd_T91 x4 (wrap64 (rd x0 x5))).f0)) x4 (wrap64 (x5 + 1))) else (none)) else (none)) else (if (wrap64 (rd x0 x5)) < 100 then ((repriseseat_Rune.f ((wrap64 (rd x0 x5)) % 256)).bind fun t278 => ((repriseref1_Form.f k t278).bind fun t279 => (if x3.length + t279.length < 140737488355328 then (repriseseat_Keys.l0 k x0 (x3 ++ t279) x4 (wrap64 (x5 + 1))) else (none)))) else ((some (([(⟨#[97, 98]⟩ : ByteArray), (⟨#[102, 111, 111, 32, 98, 97, 114]⟩ : ByteArray), (⟨#[120, 32, 121, 32]⟩ : ByteArray), (⟨#[27]⟩ : ByteArray), (⟨#[27, 91, 50, 48, 48, 126, 112, 97, 10, 115, 116, 101, 27, 91, 50, 48, 49, 126]⟩ : ByteArray), (⟨#[27, 91, 50, 48, 48, 126]⟩ : ByteArray), (⟨#[195]⟩ : ByteArray), (⟨#[255]⟩ : ByteArray), (⟨#[18]⟩ : ByteArray), (⟨#[19]⟩ : ByteArray), (⟨#[111]⟩ : ByteArray), (⟨#[97]⟩ : ByteArray), (⟨#[13]⟩ : ByteArray), (⟨#[13]⟩ : ByteArray), (⟨#[27, 51]⟩ : ByteArray), (⟨#[27, 45]⟩ : ByteArray), (⟨#[25]⟩ : ByteArray), (⟨#[27, 121]⟩ : ByteArray), (⟨#[11]⟩ : ByteArray), (⟨#[23]⟩ : ByteArray), (⟨#[31]⟩ : ByteArray), (⟨#[104, 106, 107, 108, 120, 100, 112, 117, 105, 97, 73, 65, 48, 36, 119, 98]⟩ : ByteArray), (⟨#[27, 91]⟩ : ByteArray), (⟨#[230, 188, 162, 229, 173, 151]⟩ : ByteArray), (⟨#[49]⟩ : ByteArray), (⟨#[50]⟩ : ByteArray)] : List ByteArray) : List ByteArray)).bind fun y285 => (if (y285.length : Int) = 0 then (none) else (if 0 ≤ (Int.tmod (wrap64 (rd x0 x5)) (y285.length : Int)) then (if (Int.tmod (wrap64 (rd x0 x5)) (y285.length : Int)) < (y285.length : Int) then (if x3.length + (rdOf ByteArray.empty y285 (Int.tmod (wrap64 (rd x0 x5)) (y285.length : Int))).size < 140737488355328 then (repriseseat_Keys.l0 k x0 (x3 ++ bytesOf (rdOf ByteArray.empty y285 (Int.tmod (wrap64 (rd x0 x5)) (y285.length : Int)))) x4 (wrap64 (x5 + 1))) else (none)) else (none)) else (none)))))) else (none)) else (some x3)
def repriseseat_Keys.f (k : Nat) (l0 : List Int) : Option (List Int) := (repriseref17_Usual.f k 0).bind fun t270 => (repriseseat_Keys.l0 k l0 ([] : List Int) t270 0)
theorem repriseseat_Keys.mono_l : ∀ k, (∀ y0 y1 y2 y3, LeO (repriseseat_Keys.l0 k y0 y1 y2 y3) (repriseseat_Keys.l0 (k + 1) y0 y1 y2 y3))
  | 0 => fun _ _ _ _ r h => by simp [repriseseat_Keys.l0] at h
  | k + 1 => by
    have ih0 := repriseseat_Keys.mono_l k
    · intro y0 y1 y2 y3
      unfold repriseseat_Keys.l0
      repeat' first
      | (with_reducible exact ih0 _ _ _ _)
      | (with_reducible exact repriseref17_Usual.mono _ _)
      | (with_reducible exact repriseref1_Form.mono _ _)
      | (with_reducible exact LeO.refl _)
      | (with_reducible exact LeO.none _)
      | (with_reducible refine LeO.ite ?_ ?_)
      | (with_reducible refine LeO.bind ?_ (fun _ => ?_))
      | exact ih0 _ _ _ _
      | exact repriseref17_Usual.mono _ _
      | exact repriseref1_Form.mono _ _
      | exact LeO.none _
      | refine LeO.ite ?_ ?_
      | refine LeO.bind ?_ (fun _ => ?_)
theorem repriseseat_Keys.mono : ∀ a0 k, LeO (repriseseat_Keys.f k a0) (repriseseat_Keys.f (k + 1) a0) := by
  intro a0 k
  have ih0 := repriseseat_Keys.mono_l k
  unfold repriseseat_Keys.f
  repeat' first
      | (with_reducible exact ih0 _ _ _ _)
      | (with_reducible exact repriseref17_Usual.mono _ _)
      | (with_reducible exact repriseref1_Form.mono _ _)
      | (with_reducible exact LeO.refl _)
      | (with_reducible exact LeO.none _)
      | (with_reducible refine LeO.ite ?_ ?_)
      | (with_reducible refine LeO.bind ?_ (fun _ => ?_))
      | exact ih0 _ _ _ _
      | exact repriseref17_Usual.mono _ _
      | exact repriseref1_Form.mono _ _
      | exact LeO.none _
      | refine LeO.ite ?_ ?_
      | refine LeO.bind ?_ (fun _ => ?_)
set_option maxHeartbeats 8000000 in
set_option maxRecDepth 100000 in
theorem repriseseat_Keys.calls (k : Nat) (A0 : Option Addr) (c0 : Nat) (l0 : List Int) (r : List Int) (w : World) (hr0 : Kd.C (Kd.int .u8) w A0 l0.length l0) (hc0 : l0.length ≤ c0) (h : repriseseat_Keys.f k l0 = some r) :
    Calls Try.prog 32 #[.slice A0 l0.length c0] w fun e w' => ∃ v0_ : Value, e = .returned (v0_) ∧ Kd.R (Kd.int .u8) 5 w' w.heap.size (fun _ => True) v0_ r ∧ Below w.heap.size w w' := by
  have HR0 := Aside0.mk hr0
  have HC0 := Aside0.mk hc0
  clear hr0 hc0
  have HB := Aside0.mk (Below.refl w.heap.size w)
  have H : ((repriseref17_Usual.f k 0).bind fun t270 => (repriseseat_Keys.l0 k l0 ([] : List Int) t270 0)) = some r := h
  clear h
  replace H := Option.bind_eq_some_iff.mp H
  obtain ⟨t270, A20, H⟩ := H
  replace H : (repriseseat_Keys.l0 k l0 ([] : List Int) t270 0) = some r := H
  have A2 := Aside0.mk A20
  clear A20
  have H' := Aside0.mk H
  clear H
  go_enter Try.func32, Try.ntmps32
  go_wp2_with (first | ((with_reducible refine gate_callee (f := 51) rfl ?_); refine goesL_ (some 8) rfl rfl Try.func51 (by kernel_rfl) rfl #[.int .i64 0] rfl (by (try simp only [List.map_toArray, List.map_cons, List.map_nil]); first | done | rfl | (simp only [List.length_drop, List.length_take]; rfl)) ?_; (with_reducible refine (repriseref17_Usual.calls k 0 t270 _ A2.out).mono ?_); rintro e w3 ⟨v271, rfl, ho0, hb⟩; refine ⟨_, rfl, ?_⟩; have n0_ := Aside0.mk (Kd.N_lower (Kd.N_mono (ok' := fun k_ => True) ho0 (fun k_ hk_ => trivial)) (below_size (by repeat (first | (with_reducible first | exact HB.out | apply below_alloc | apply pw_below_drewN | apply below_drew1) | exact HB.out)))); have n1_ := Aside0.mk (below_step (by repeat (first | (with_reducible first | exact HB.out | apply below_alloc | apply pw_below_drewN | apply below_drew1) | exact HB.out)) hb); clear HB; have HO272 := n0_; have HB := n1_; clear n0_ n1_; (try clear hb); (try clear hb2); (try clear hk); (try clear hi); (try clear ho0)))
  go_loopg [3, 5] k (fun kq v3 v5 w' => ∃ (x3_1 : List Int) (x5_1 : Int), v5 = .int .i64 x5_1 ∧ Aside0 (repriseseat_Keys.l0 kq l0 x3_1 t270 x5_1 = some r) ∧ Aside0 (kq ≤ k) ∧ Aside0 (Kd.R (Kd.int .u8) 5 w' w.heap.size (fun _ => True) v3 x3_1) ∧ Aside0 (Kd.N k91 91 w' w.heap.size (fun k_ => some k_ ≠ (v3 : Value).ownBlock) v271 t270) ∧ Aside0 (Below w.heap.size w w'))
  case atStart => exact ⟨(([] : List Int)), (0), (by first | rfl | (simp; done) | (simp [*]; done)), H', ⟨Nat.le_refl _⟩, ⟨by first | exact Kd.R_nil _ _ _ _ _ | exact Kd.N_nil _ _ _ _ _ | exact Kd.V_nil _ _ _ _ _ | exact Kd.Q_nil _ _ _ _ _ | exact Kd.S_nil _ _ _ _ _⟩, ⟨by (with_reducible repeat (first | apply Kd.N_alloc | apply Kd.N_drewN | apply Kd.N_drew)); exact Kd.N_mono HO272.out (fun _ hk => (by simp [Value.ownBlock]))⟩, ⟨by repeat (first | (with_reducible first | exact HB.out | apply below_alloc | apply pw_below_drewN | apply below_drew1) | exact HB.out)⟩⟩
  case round =>
    clear H'
    try clear p2
    try clear c3
    obtain ⟨x3_1, x5_1, rfl, HA, HK1, HO_3, HO_4, HB⟩ := hrel
    cases gk with
    | zero => exact absurd HA.out (by simp [repriseseat_Keys.l0])
    | succ k1 =>
      have H := HA.out
      clear HA
      simp only [repriseseat_Keys.l0] at H
      by_cases c4 : x5_1 < (l0.length : Int)
      · rw [if_pos c4] at H
        have c4b0 : decide (x5_1 < (l0.length : Int)) = true := decide_eq_true c4
        clear c4
        by_cases c5 : 0 ≤ x5_1
        · rw [if_pos c5] at H
          have c5b0 : decide (0 ≤ x5_1) = true := decide_eq_true c5
          clear c5
          by_cases c6 : (wrap64 (rd l0 x5_1)) < (t270.length : Int)
          · rw [if_pos c6] at H
            have c6b0 : decide ((wrap64 (rd l0 x5_1)) < (t270.length : Int)) = true := decide_eq_true c6
            clear c6
            obtain ⟨ji7, hji7⟩ : ∃ j_ : Int, (wrap64 (rd l0 x5_1)) = j_ := ⟨_, rfl⟩
            replace H : (if 0 ≤ (ji7) then (if x3_1.length + ((rd_T91 t270 (ji7)).f0).length < 140737488355328 then (repriseseat_Keys.l0 k1 l0 (x3_1 ++ ((rd_T91 t270 (ji7)).f0)) t270 (wrap64 (x5_1 + 1))) else (none)) else (none)) = some r := by first | (rw [hji7] at H; exact H) | (simp only [hji7] at H ⊢; exact H)
            (try rw [hji7] at c6b0)
            have hji7w : (IntKind.i64.wrap (rd l0 x5_1)) = ji7 := (i64_w _).trans hji7
            by_cases c8 : 0 ≤ (ji7)
            · rw [if_pos c8] at H
              have c8b0 : decide (0 ≤ (ji7)) = true := decide_eq_true c8
              clear c8
              by_cases c9 : x3_1.length + ((rd_T91 t270 (ji7)).f0).length < 140737488355328
              · rw [if_pos c9] at H
                have LMc9 := Aside0.mk c9
                clear c9
                obtain ⟨y275, hy275⟩ : ∃ y_ : List Int, y_ = (x3_1 ++ ((rd_T91 t270 (ji7)).f0)) := ⟨_, rfl⟩
                replace H : (repriseseat_Keys.l0 k1 l0 y275 t270 (wrap64 (x5_1 + 1))) = some r := by first | (rw [hy275]; with_reducible exact H) | (have H2_ := (Option.bind_some _ _).symm.trans H; rw [hy275]; with_reducible exact H2_) | (have H2_ := (Option.bind_some _ _).symm.trans H; with_reducible exact H2_) | with_reducible exact H | (rw [hy275]; exact H) | exact H
                have Ny275 := Aside0.mk hy275
                clear hy275
                have H' := Aside0.mk H
                clear H
                have p273 : 0 ≤ (x5_1 : Int) := of_decide_eq_true (by first | (with_reducible assumption) | assumption)
                have q273 : x5_1 < (l0.length : Int) := of_decide_eq_true (by first | (with_reducible assumption) | assumption)
                obtain ⟨ad273, e273, hx273_0⟩ := Kd.at_int HR0.out x5_1 p273 q273
                cases e273
                replace hx273_0 := (HB.out.cell (World.block_lt_of_cell? w _ hx273_0)).trans hx273_0
                replace p273 := eq_true p273
                replace q273 := eq_true q273
                obtain ⟨Ao10, co10, eo10⟩ := Kd.N_slice HO_4.out
                subst eo10
                have p274 : 0 ≤ ((ji7) : Int) := of_decide_eq_true (by first | (with_reducible assumption) | assumption)
                have q274 : (ji7) < (t270.length : Int) := of_decide_eq_true (by first | (with_reducible assumption) | assumption)
                obtain ⟨ad274, A274_0, c274_0, e274, hx274_0, hx274_1, hl274_0, hi274_0⟩ := at_T91 (Kd.N_reads' HO_4.out).2.2 (ji7) p274 q274
                cases e274
                obtain ⟨ce274, hce274, hMe274, hcc274⟩ := Kd.N_get HO_4.out z91 (ji7) p274 (by first | exact q274 | exact of_decide_eq_true (by first | (with_reducible assumption) | assumption) | (have e_ := (Kd.N_reads' HO_4.out).1; omega))
                obtain ⟨ua274_0, uc274_0, rfl, ul274_0, ge274_0⟩ := k91_openF hMe274
                have hv274_0 := hcc274 0 _ rfl
                rw [Nat.add_zero] at hv274_0
                replace hv274_0 := Option.some.inj (hv274_0.symm.trans hx274_0)
                injection hv274_0 with hva_ hvn_ hvc_
                rw [hva_] at ge274_0
                rw [hvc_] at ul274_0
                have HL274_0 := Aside0.mk (show Kd.V (Kd.int .u8) 5 _ w.heap.size _ _ ((rd_T91 t270 (ji7)).f0) from Kd.V_mk ul274_0 ge274_0)
                clear hva_ hvn_ hvc_ ge274_0 ul274_0
                clear hcc274 hce274
                have HR274_0 := Aside0.mk hi274_0
                have HC274_0 := Aside0.mk hl274_0
                clear hi274_0 hl274_0
                replace p274 := eq_true p274
                replace q274 := eq_true q274
                go_wp2_with (first | ((with_reducible refine gate_builtin (b := .append) (xs := #[.tmp 35, .tmp 40]) rfl ?_); at_builtin; refine Kd.R_append_rows (Kd.int .u8) (w0 := w) w.heap.size rfl (.tmp 35) (.tmp 40) 22 5 (.int .u8 0) 1 rfl Try.underlying22 info5 rfl (by decide) (by omega) u3 x3_1 ((rd_T91 t270 (ji7)).f0) _ _ _ (fun _ => True) (fun _ => False) rfl rfl ?aO ?aR (fun _ _ h => h) (fun _ h => h.elim) ?aF ?aB ?aS ?aL ?_; (case aR => repeat (first | exact (by repeat (first | (with_reducible exact HR274_0.out) | (with_reducible refine Kd.C_alloc ?_ _) | (with_reducible refine Kd.C_drewN ?_ _) | (with_reducible refine Kd.C_drew ?_) | exact HR274_0.out)) | (with_reducible refine Kd.C_alloc ?_ _) | (with_reducible refine Kd.C_drewN ?_ _) | (with_reducible refine Kd.C_drew ?_))); (case aB => exact (by repeat (first | (with_reducible first | exact HB.out | apply below_alloc | apply pw_below_drewN | apply below_drew1) | exact HB.out))); (case aF => exact (fun _ _ => trivial)); (case aO => exact (by (with_reducible repeat (first | apply Kd.R_alloc | apply Kd.R_drewN | apply Kd.R_drew)); exact HO_3.out)); (case aS => exact (below_size (by repeat (first | (with_reducible first | exact HB.out | apply below_alloc | apply pw_below_drewN | apply below_drew1) | exact HB.out)))); (case aL => have := LMc9.out; omega); intro v276 w11 ho hb hg hat; rw [← Ny275.out] at ho; have n0_ := Aside0.mk (Kd.N_afterv (ok := (fun _ => True)) (by (with_reducible repeat (first | apply Kd.N_alloc | apply Kd.N_drewN | apply Kd.N_drew)); exact Kd.N_mono HO_4.out (fun _ hk => ⟨trivial, hk⟩)) hg hat); have n1_ := Aside0.mk (Kd.V_afterv (ok := (fun k_ => some k_ ≠ (.slice (some ad274) t270.length co10 : Value).ownBlock)) (by (with_reducible repeat (first | apply Kd.V_alloc | apply Kd.V_drewN | apply Kd.V_drew)); exact Kd.V_mono HL274_0.out (fun _ hk => ⟨hk.2, hk.1⟩)) hg hat); have n2_ := Aside0.mk (hb); have n3_ := Aside0.mk (ho); clear HO_4; clear HL274_0; clear HB; clear HO_3; have HO_4 := n0_; have HL274_0 := n1_; have HB := n2_; have HO277 := n3_; clear n0_ n1_ n2_ n3_; clear ho hb hg hat))
                go_roundg k1
                case measure => have := HK1.out; omega
                case rel => exact ⟨(y275), (wrap64 (x5_1 + 1)), (by first | rfl | (simp; done) | (simp [*]; done)), H', ⟨by have := HK1.out; omega⟩, ⟨by (with_reducible repeat (first | apply Kd.R_alloc | apply Kd.R_drewN | apply Kd.R_drew)); exact HO277.out⟩, ⟨by (with_reducible repeat (first | apply Kd.N_alloc | apply Kd.N_drewN | apply Kd.N_drew)); exact Kd.N_mono HO_4.out (fun _ hk => hk.2)⟩, ⟨by repeat (first | (with_reducible first | exact HB.out | apply below_alloc | apply pw_below_drewN | apply below_drew1) | exact HB.out)⟩⟩
              · rw [if_neg c9] at H
                exact absurd H (by simp)
            · rw [if_neg c8] at H
              exact absurd H (by simp)
          · rw [if_neg c6] at H
            have c6b0 : decide ((wrap64 (rd l0 x5_1)) < (t270.length : Int)) = false := decide_eq_false c6
            clear c6
            by_cases c12 : (wrap64 (rd l0 x5_1)) < 100
            · rw [if_pos c12] at H
              have c12b0 : decide ((wrap64 (rd l0 x5_1)) < 100) = true := decide_eq_true c12
              clear c12
              replace H := Option.bind_eq_some_iff.mp H
              obtain ⟨t278, A130, H⟩ := H
              replace H : ((repriseref1_Form.f k1 t278).bind fun t279 => (if x3_1.length + t279.length < 140737488355328 then (repriseseat_Keys.l0 k1 l0 (x3_1 ++ t279) t270 (wrap64 (x5_1 + 1))) else (none))) = some r := H
              have A13 := Aside0.mk A130
              clear A130
              replace H := Option.bind_eq_some_iff.mp H
              obtain ⟨t279, A140, H⟩ := H
              replace H : (if x3_1.length + t279.length < 140737488355328 then (repriseseat_Keys.l0 k1 l0 (x3_1 ++ t279) t270 (wrap64 (x5_1 + 1))) else (none)) = some r := H
              have A14 := Aside0.mk A140
              clear A140
              by_cases c15 : x3_1.length + t279.length < 140737488355328
              · rw [if_pos c15] at H
                have LMc15 := Aside0.mk c15
                clear c15
                obtain ⟨y282, hy282⟩ : ∃ y_ : List Int, y_ = (x3_1 ++ t279) := ⟨_, rfl⟩
                replace H : (repriseseat_Keys.l0 k1 l0 y282 t270 (wrap64 (x5_1 + 1))) = some r := by first | (rw [hy282]; with_reducible exact H) | (have H2_ := (Option.bind_some _ _).symm.trans H; rw [hy282]; with_reducible exact H2_) | (have H2_ := (Option.bind_some _ _).symm.trans H; with_reducible exact H2_) | with_reducible exact H | (rw [hy282]; exact H) | exact H
                have Ny282 := Aside0.mk hy282
                clear hy282
                have H' := Aside0.mk H
                clear H
                have p273 : 0 ≤ (x5_1 : Int) := of_decide_eq_true (by first | (with_reducible assumption) | assumption)
                have q273 : x5_1 < (l0.length : Int) := of_decide_eq_true (by first | (with_reducible assumption) | assumption)
                obtain ⟨ad273, e273, hx273_0⟩ := Kd.at_int HR0.out x5_1 p273 q273
                cases e273
                replace hx273_0 := (HB.out.cell (World.block_lt_of_cell? w _ hx273_0)).trans hx273_0
                replace p273 := eq_true p273
                replace q273 := eq_true q273
                obtain ⟨Ao16, co16, eo16⟩ := Kd.N_slice HO_4.out
                subst eo16
                go_wp2_with (first | ((with_reducible refine gate_callee (f := 53) rfl ?_); refine goesL_ (some 48) rfl rfl Try.func53 (by kernel_rfl) rfl #[.int .u8 ((wrap64 (rd l0 x5_1)) % 256)] rfl (by (try simp only [List.map_toArray, List.map_cons, List.map_nil]); first | done | rfl | (simp only [List.length_drop, List.length_take]; rfl)) ?_; (with_reducible refine (repriseseat_Rune.calls ((wrap64 (rd l0 x5_1)) % 256) t278 _ A13.out).mono ?_); rintro e w17 ⟨rfl, hb⟩; refine ⟨_, rfl, ?_⟩; have n0_ := Aside0.mk (Kd.R_below (by (with_reducible repeat (first | apply Kd.R_alloc | apply Kd.R_drewN | apply Kd.R_drew)); exact HO_3.out) hb); have n1_ := Aside0.mk (Kd.N_below (by (with_reducible repeat (first | apply Kd.N_alloc | apply Kd.N_drewN | apply Kd.N_drew)); exact HO_4.out) hb); have n2_ := Aside0.mk (below_step (by repeat (first | (with_reducible first | exact HB.out | apply below_alloc | apply pw_below_drewN | apply below_drew1) | exact HB.out)) hb); clear HO_3; clear HO_4; clear HB; have HO_3 := n0_; have HO_4 := n1_; have HB := n2_; clear n0_ n1_ n2_; (try clear hb); (try clear hb2); (try clear hk); (try clear hi)) | ((with_reducible refine gate_callee (f := 52) rfl ?_); refine goesL_ (some 49) rfl rfl Try.func52 (by kernel_rfl) rfl #[.int .i32 t278] rfl (by (try simp only [List.map_toArray, List.map_cons, List.map_nil]); first | done | rfl | (simp only [List.length_drop, List.length_take]; rfl)) ?_; (with_reducible refine (repriseref1_Form.calls k1 t278 t279 _ A14.out).mono ?_); rintro e w18 ⟨v280, rfl, ho0, hb⟩; refine ⟨_, rfl, ?_⟩; have n0_ := Aside0.mk (Kd.R_elder' (by (with_reducible repeat (first | apply Kd.R_alloc | apply Kd.R_drewN | apply Kd.R_drew)); exact HO_3.out) (Kd.R_base ho0) hb); have n1_ := Aside0.mk (Kd.N_elder' (by (with_reducible repeat (first | apply Kd.N_alloc | apply Kd.N_drewN | apply Kd.N_drew)); exact HO_4.out) (Kd.R_base ho0) hb); have n2_ := Aside0.mk (Kd.R_lower (Kd.R_new' ho0 (Kd.R_lt (by (with_reducible repeat (first | apply Kd.R_alloc | apply Kd.R_drewN | apply Kd.R_drew)); exact HO_3.out))) (below_size (by repeat (first | (with_reducible first | exact HB.out | apply below_alloc | apply pw_below_drewN | apply below_drew1) | exact HB.out)))); have n3_ := Aside0.mk (below_step (by repeat (first | (with_reducible first | exact HB.out | apply below_alloc | apply pw_below_drewN | apply below_drew1) | exact HB.out)) hb); clear HO_3; clear HO_4; clear HB; have HO_3 := n0_; have HO_4 := n1_; have HO281 := n2_; have HB := n3_; clear n0_ n1_ n2_ n3_; (try clear hb); (try clear hb2); (try clear hk); (try clear hi); (try clear ho0); obtain ⟨Ao20, co20, eo20⟩ := Kd.R_slice HO281.out; subst eo20) | ((with_reducible refine gate_builtin (b := .append) (xs := #[.tmp 45, .tmp 49]) rfl ?_); at_builtin; refine Kd.R_append_rows (Kd.int .u8) (w0 := w) w.heap.size rfl (.tmp 45) (.tmp 49) 22 5 (.int .u8 0) 1 rfl Try.underlying22 info5 rfl (by decide) (by omega) u3 x3_1 t279 _ _ _ (fun k_ => some k_ ≠ (.slice Ao20 t279.length co20 : Value).ownBlock) (fun _ => False) rfl rfl ?aO ?aR (fun _ _ h => h) (fun _ h => h.elim) ?aF ?aB ?aS ?aL ?_; (case aR => repeat (first | exact (Kd.R_reads' HO281.out).2.2 | (with_reducible refine Kd.C_alloc ?_ _) | (with_reducible refine Kd.C_drewN ?_ _) | (with_reducible refine Kd.C_drew ?_))); (case aB => exact (by repeat (first | (with_reducible first | exact HB.out | apply below_alloc | apply pw_below_drewN | apply below_drew1) | exact HB.out))); (case aF => exact (fun k_ hk => Kd.fresh' (Kd.R_lt (by (with_reducible repeat (first | apply Kd.R_alloc | apply Kd.R_drewN | apply Kd.R_drew)); exact HO281.out)) k_ hk)); (case aO => exact (by (with_reducible repeat (first | apply Kd.R_alloc | apply Kd.R_drewN | apply Kd.R_drew)); exact Kd.R_mono HO_3.out (fun _ hk => hk.2))); (case aS => exact (below_size (by repeat (first | (with_reducible first | exact HB.out | apply below_alloc | apply pw_below_drewN | apply below_drew1) | exact HB.out)))); (case aL => have := LMc15.out; omega); intro v283 w19 ho hb hg hat; rw [← Ny282.out] at ho; have n0_ := Aside0.mk (Kd.N_afterv (ok := (fun k_ => some k_ ≠ (.slice Ao20 t279.length co20 : Value).ownBlock)) (by (with_reducible repeat (first | apply Kd.N_alloc | apply Kd.N_drewN | apply Kd.N_drew)); exact Kd.N_mono HO_4.out (fun _ hk => ⟨hk.2, hk.1⟩)) hg hat); have n1_ := Aside0.mk (Kd.R_after (ok := (fun _ => True)) (by (with_reducible repeat (first | apply Kd.R_alloc | apply Kd.R_drewN | apply Kd.R_drew)); exact HO281.out) hg hat); have n2_ := Aside0.mk (hb); have n3_ := Aside0.mk (ho); clear HO_4; clear HO281; clear HB; clear HO_3; have HO_4 := n0_; have HO281 := n1_; have HB := n2_; have HO284 := n3_; clear n0_ n1_ n2_ n3_; clear ho hb hg hat))
                go_roundg k1
                case measure => have := HK1.out; omega
                case rel => exact ⟨(y282), (wrap64 (x5_1 + 1)), (by first | rfl | (simp; done) | (simp [*]; done)), H', ⟨by have := HK1.out; omega⟩, ⟨by (with_reducible repeat (first | apply Kd.R_alloc | apply Kd.R_drewN | apply Kd.R_drew)); exact Kd.R_mono HO284.out (fun _ hk => trivial)⟩, ⟨by (with_reducible repeat (first | apply Kd.N_alloc | apply Kd.N_drewN | apply Kd.N_drew)); exact Kd.N_mono HO_4.out (fun _ hk => hk.2)⟩, ⟨by repeat (first | (with_reducible first | exact HB.out | apply below_alloc | apply pw_below_drewN | apply below_drew1) | exact HB.out)⟩⟩
              · rw [if_neg c15] at H
                exact absurd H (by simp)
            · rw [if_neg c12] at H
              have c12b0 : decide ((wrap64 (rd l0 x5_1)) < 100) = false := decide_eq_false c12
              clear c12
              obtain ⟨y285, hy285⟩ : ∃ y_ : List ByteArray, y_ = (([(⟨#[97, 98]⟩ : ByteArray), (⟨#[102, 111, 111, 32, 98, 97, 114]⟩ : ByteArray), (⟨#[120, 32, 121, 32]⟩ : ByteArray), (⟨#[27]⟩ : ByteArray), (⟨#[27, 91, 50, 48, 48, 126, 112, 97, 10, 115, 116, 101, 27, 91, 50, 48, 49, 126]⟩ : ByteArray), (⟨#[27, 91, 50, 48, 48, 126]⟩ : ByteArray), (⟨#[195]⟩ : ByteArray), (⟨#[255]⟩ : ByteArray), (⟨#[18]⟩ : ByteArray), (⟨#[19]⟩ : ByteArray), (⟨#[111]⟩ : ByteArray), (⟨#[97]⟩ : ByteArray), (⟨#[13]⟩ : ByteArray), (⟨#[13]⟩ : ByteArray), (⟨#[27, 51]⟩ : ByteArray), (⟨#[27, 45]⟩ : ByteArray), (⟨#[25]⟩ : ByteArray), (⟨#[27, 121]⟩ : ByteArray), (⟨#[11]⟩ : ByteArray), (⟨#[23]⟩ : ByteArray), (⟨#[31]⟩ : ByteArray), (⟨#[104, 106, 107, 108, 120, 100, 112, 117, 105, 97, 73, 65, 48, 36, 119, 98]⟩ : ByteArray), (⟨#[27, 91]⟩ : ByteArray), (⟨#[230, 188, 162, 229, 173, 151]⟩ : ByteArray), (⟨#[49]⟩ : ByteArray), (⟨#[50]⟩ : ByteArray)] : List ByteArray)) := ⟨_, rfl⟩
              replace H : (if (y285.length : Int) = 0 then (none) else (if 0 ≤ (Int.tmod (wrap64 (rd l0 x5_1)) (y285.length : Int)) then (if (Int.tmod (wrap64 (rd l0 x5_1)) (y285.length : Int)) < (y285.length : Int) then (if x3_1.length + (rdOf ByteArray.empty y285 (Int.tmod (wrap64 (rd l0 x5_1)) (y285.length : Int))).size < 140737488355328 then (repriseseat_Keys.l0 k1 l0 (x3_1 ++ bytesOf (rdOf ByteArray.empty y285 (Int.tmod (wrap64 (rd l0 x5_1)) (y285.length : Int)))) t270 (wrap64 (x5_1 + 1))) else (none)) else (none)) else (none))) = some r := by first | (rw [hy285]; with_reducible exact H) | (have H2_ := (Option.bind_some _ _).symm.trans H; rw [hy285]; with_reducible exact H2_) | (have H2_ := (Option.bind_some _ _).symm.trans H; with_reducible exact H2_) | with_reducible exact H | (rw [hy285]; exact H) | exact H
              have Ny285 := Aside0.mk hy285
              clear hy285
              by_cases c21 : (y285.length : Int) = 0
              · rw [if_pos c21] at H
                exact absurd H (by simp)
              · rw [if_neg c21] at H
                have c21b0 : ((y285.length : Int) == 0) = false := beq_eq_false_iff_ne.mpr c21
                have c21b1 : ((y285.length : Int) != 0) = true := bne_iff_ne.mpr c21
                have c21b2 : ¬ (y285 = []) := fun h_ => c21 (by rw [h_]; rfl)
                obtain ⟨ji22, hji22⟩ : ∃ j_ : Int, (Int.tmod (wrap64 (rd l0 x5_1)) (y285.length : Int)) = j_ := ⟨_, rfl⟩
                replace H : (if 0 ≤ (ji22) then (if (ji22) < (y285.length : Int) then (if x3_1.length + (rdOf ByteArray.empty y285 (ji22)).size < 140737488355328 then (repriseseat_Keys.l0 k1 l0 (x3_1 ++ bytesOf (rdOf ByteArray.empty y285 (ji22))) t270 (wrap64 (x5_1 + 1))) else (none)) else (none)) else (none)) = some r := by first | (rw [hji22] at H; exact H) | (simp only [hji22] at H ⊢; exact H)
                by_cases c23 : 0 ≤ (ji22)
                · rw [if_pos c23] at H
                  have c23b0 : decide (0 ≤ (ji22)) = true := decide_eq_true c23
                  clear c23
                  by_cases c24 : (ji22) < (y285.length : Int)
                  · rw [if_pos c24] at H
                    have c24b0 : decide ((ji22) < (y285.length : Int)) = true := decide_eq_true c24
                    clear c24
                    by_cases c25 : x3_1.length + (rdOf ByteArray.empty y285 (ji22)).size < 140737488355328
                    · rw [if_pos c25] at H
                      have LMc25 := Aside0.mk c25
                      clear c25
                      obtain ⟨y289, hy289⟩ : ∃ y_ : List Int, y_ = (x3_1 ++ bytesOf (rdOf ByteArray.empty y285 (ji22))) := ⟨_, rfl⟩
                      replace H : (repriseseat_Keys.l0 k1 l0 y289 t270 (wrap64 (x5_1 + 1))) = some r := by first | (rw [hy289]; with_reducible exact H) | (have H2_ := (Option.bind_some _ _).symm.trans H; rw [hy289]; with_reducible exact H2_) | (have H2_ := (Option.bind_some _ _).symm.trans H; with_reducible exact H2_) | with_reducible exact H | (rw [hy289]; exact H) | exact H
                      have Ny289 := Aside0.mk hy289
                      clear hy289
                      have H' := Aside0.mk H
                      clear H
                      have p273 : 0 ≤ (x5_1 : Int) := of_decide_eq_true (by first | (with_reducible assumption) | assumption)
                      have q273 : x5_1 < (l0.length : Int) := of_decide_eq_true (by first | (with_reducible assumption) | assumption)
                      obtain ⟨ad273, e273, hx273_0⟩ := Kd.at_int HR0.out x5_1 p273 q273
                      cases e273
                      replace hx273_0 := (HB.out.cell (World.block_lt_of_cell? w _ hx273_0)).trans hx273_0
                      replace p273 := eq_true p273
                      replace q273 := eq_true q273
                      obtain ⟨Ao26, co26, eo26⟩ := Kd.N_slice HO_4.out
                      subst eo26
                      go_wp2_with (first | ((with_reducible refine gate_dst (N := 20) rfl ?_); refine Kd.R_lit Kd.string _ 9 ?hg (N := 20) ?hd (xs := ([(⟨#[97, 98]⟩ : ByteArray), (⟨#[102, 111, 111, 32, 98, 97, 114]⟩ : ByteArray), (⟨#[120, 32, 121, 32]⟩ : ByteArray), (⟨#[27]⟩ : ByteArray), (⟨#[27, 91, 50, 48, 48, 126, 112, 97, 10, 115, 116, 101, 27, 91, 50, 48, 49, 126]⟩ : ByteArray), (⟨#[27, 91, 50, 48, 48, 126]⟩ : ByteArray), (⟨#[195]⟩ : ByteArray), (⟨#[255]⟩ : ByteArray), (⟨#[18]⟩ : ByteArray), (⟨#[19]⟩ : ByteArray), (⟨#[111]⟩ : ByteArray), (⟨#[97]⟩ : ByteArray), (⟨#[13]⟩ : ByteArray), (⟨#[13]⟩ : ByteArray), (⟨#[27, 51]⟩ : ByteArray), (⟨#[27, 45]⟩ : ByteArray), (⟨#[25]⟩ : ByteArray), (⟨#[27, 121]⟩ : ByteArray), (⟨#[11]⟩ : ByteArray), (⟨#[23]⟩ : ByteArray), (⟨#[31]⟩ : ByteArray), (⟨#[104, 106, 107, 108, 120, 100, 112, 117, 105, 97, 73, 65, 48, 36, 119, 98]⟩ : ByteArray), (⟨#[27, 91]⟩ : ByteArray), (⟨#[230, 188, 162, 229, 173, 151]⟩ : ByteArray), (⟨#[49]⟩ : ByteArray), (⟨#[50]⟩ : ByteArray)] : List ByteArray)) (inner := [.string (⟨#[97, 98]⟩ : ByteArray), .string (⟨#[102, 111, 111, 32, 98, 97, 114]⟩ : ByteArray), .string (⟨#[120, 32, 121, 32]⟩ : ByteArray), .string (⟨#[27]⟩ : ByteArray), .string (⟨#[27, 91, 50, 48, 48, 126, 112, 97, 10, 115, 116, 101, 27, 91, 50, 48, 49, 126]⟩ : ByteArray), .string (⟨#[27, 91, 50, 48, 48, 126]⟩ : ByteArray), .string (⟨#[195]⟩ : ByteArray), .string (⟨#[255]⟩ : ByteArray), .string (⟨#[18]⟩ : ByteArray), .string (⟨#[19]⟩ : ByteArray), .string (⟨#[111]⟩ : ByteArray), .string (⟨#[97]⟩ : ByteArray), .string (⟨#[13]⟩ : ByteArray), .string (⟨#[13]⟩ : ByteArray), .string (⟨#[27, 51]⟩ : ByteArray), .string (⟨#[27, 45]⟩ : ByteArray), .string (⟨#[25]⟩ : ByteArray), .string (⟨#[27, 121]⟩ : ByteArray), .string (⟨#[11]⟩ : ByteArray), .string (⟨#[23]⟩ : ByteArray), .string (⟨#[31]⟩ : ByteArray), .string (⟨#[104, 106, 107, 108, 120, 100, 112, 117, 105, 97, 73, 65, 48, 36, 119, 98]⟩ : ByteArray), .string (⟨#[27, 91]⟩ : ByteArray), .string (⟨#[230, 188, 162, 229, 173, 151]⟩ : ByteArray), .string (⟨#[49]⟩ : ByteArray), .string (⟨#[50]⟩ : ByteArray)]) (ok := fun _ => True) (okp := fun _ => True) ?hr ?hp (fun _ hk => hk) trivial (Below.refl _ _) (Nat.le_refl _) (by simp) ?_; (case hd => rfl); (case hg => rfl); (case hr => first | (go_simp; done) | (go_simp; rfl)); (case hp => exact (Reps.one (show Kd.M Kd.string _ _ _ (⟨#[97, 98]⟩ : ByteArray) [.string (⟨#[97, 98]⟩ : ByteArray)] from rfl) (Reps.one (show Kd.M Kd.string _ _ _ (⟨#[102, 111, 111, 32, 98, 97, 114]⟩ : ByteArray) [.string (⟨#[102, 111, 111, 32, 98, 97, 114]⟩ : ByteArray)] from rfl) (Reps.one (show Kd.M Kd.string _ _ _ (⟨#[120, 32, 121, 32]⟩ : ByteArray) [.string (⟨#[120, 32, 121, 32]⟩ : ByteArray)] from rfl) (Reps.one (show Kd.M Kd.string _ _ _ (⟨#[27]⟩ : ByteArray) [.string (⟨#[27]⟩ : ByteArray)] from rfl) (Reps.one (show Kd.M Kd.string _ _ _ (⟨#[27, 91, 50, 48, 48, 126, 112, 97, 10, 115, 116, 101, 27, 91, 50, 48, 49, 126]⟩ : ByteArray) [.string (⟨#[27, 91, 50, 48, 48, 126, 112, 97, 10, 115, 116, 101, 27, 91, 50, 48, 49, 126]⟩ : ByteArray)] from rfl) (Reps.one (show Kd.M Kd.string _ _ _ (⟨#[27, 91, 50, 48, 48, 126]⟩ : ByteArray) [.string (⟨#[27, 91, 50, 48, 48, 126]⟩ : ByteArray)] from rfl) (Reps.one (show Kd.M Kd.string _ _ _ (⟨#[195]⟩ : ByteArray) [.string (⟨#[195]⟩ : ByteArray)] from rfl) (Reps.one (show Kd.M Kd.string _ _ _ (⟨#[255]⟩ : ByteArray) [.string (⟨#[255]⟩ : ByteArray)] from rfl) (Reps.one (show Kd.M Kd.string _ _ _ (⟨#[18]⟩ : ByteArray) [.string (⟨#[18]⟩ : ByteArray)] from rfl) (Reps.one (show Kd.M Kd.string _ _ _ (⟨#[19]⟩ : ByteArray) [.string (⟨#[19]⟩ : ByteArray)] from rfl) (Reps.one (show Kd.M Kd.string _ _ _ (⟨#[111]⟩ : ByteArray) [.string (⟨#[111]⟩ : ByteArray)] from rfl) (Reps.one (show Kd.M Kd.string _ _ _ (⟨#[97]⟩ : ByteArray) [.string (⟨#[97]⟩ : ByteArray)] from rfl) (Reps.one (show Kd.M Kd.string _ _ _ (⟨#[13]⟩ : ByteArray) [.string (⟨#[13]⟩ : ByteArray)] from rfl) (Reps.one (show Kd.M Kd.string _ _ _ (⟨#[13]⟩ : ByteArray) [.string (⟨#[13]⟩ : ByteArray)] from rfl) (Reps.one (show Kd.M Kd.string _ _ _ (⟨#[27, 51]⟩ : ByteArray) [.string (⟨#[27, 51]⟩ : ByteArray)] from rfl) (Reps.one (show Kd.M Kd.string _ _ _ (⟨#[27, 45]⟩ : ByteArray) [.string (⟨#[27, 45]⟩ : ByteArray)] from rfl) (Reps.one (show Kd.M Kd.string _ _ _ (⟨#[25]⟩ : ByteArray) [.string (⟨#[25]⟩ : ByteArray)] from rfl) (Reps.one (show Kd.M Kd.string _ _ _ (⟨#[27, 121]⟩ : ByteArray) [.string (⟨#[27, 121]⟩ : ByteArray)] from rfl) (Reps.one (show Kd.M Kd.string _ _ _ (⟨#[11]⟩ : ByteArray) [.string (⟨#[11]⟩ : ByteArray)] from rfl) (Reps.one (show Kd.M Kd.string _ _ _ (⟨#[23]⟩ : ByteArray) [.string (⟨#[23]⟩ : ByteArray)] from rfl) (Reps.one (show Kd.M Kd.string _ _ _ (⟨#[31]⟩ : ByteArray) [.string (⟨#[31]⟩ : ByteArray)] from rfl) (Reps.one (show Kd.M Kd.string _ _ _ (⟨#[104, 106, 107, 108, 120, 100, 112, 117, 105, 97, 73, 65, 48, 36, 119, 98]⟩ : ByteArray) [.string (⟨#[104, 106, 107, 108, 120, 100, 112, 117, 105, 97, 73, 65, 48, 36, 119, 98]⟩ : ByteArray)] from rfl) (Reps.one (show Kd.M Kd.string _ _ _ (⟨#[27, 91]⟩ : ByteArray) [.string (⟨#[27, 91]⟩ : ByteArray)] from rfl) (Reps.one (show Kd.M Kd.string _ _ _ (⟨#[230, 188, 162, 229, 173, 151]⟩ : ByteArray) [.string (⟨#[230, 188, 162, 229, 173, 151]⟩ : ByteArray)] from rfl) (Reps.one (show Kd.M Kd.string _ _ _ (⟨#[49]⟩ : ByteArray) [.string (⟨#[49]⟩ : ByteArray)] from rfl) (Reps.one (show Kd.M Kd.string _ _ _ (⟨#[50]⟩ : ByteArray) [.string (⟨#[50]⟩ : ByteArray)] from rfl) (Reps.none _ _)))))))))))))))))))))))))))); intro v286 w27 ho28 hb hg_ hnew_; clear hg_ hnew_; (first | rw [← Ny285.out] at ho28 | (simp only [Int.reduceToNat] at ho28; rw [← Ny285.out] at ho28)); have n0_ := Aside0.mk (Kd.R_below (by (with_reducible repeat (first | apply Kd.R_alloc | apply Kd.R_drewN | apply Kd.R_drew)); exact HO_3.out) hb); have n1_ := Aside0.mk (Kd.N_elder' (by (with_reducible repeat (first | apply Kd.N_alloc | apply Kd.N_drewN | apply Kd.N_drew)); exact HO_4.out) (Kd.R_base ho28) hb); have n2_ := Aside0.mk (Kd.R_lower ho28 (below_size (by repeat (first | (with_reducible first | exact HB.out | apply below_alloc | apply pw_below_drewN | apply below_drew1) | exact HB.out)))); have n3_ := Aside0.mk (below_step (by repeat (first | (with_reducible first | exact HB.out | apply below_alloc | apply pw_below_drewN | apply below_drew1) | exact HB.out)) hb); clear HO_3; clear HO_4; clear HB; have HO_3 := n0_; have HO_4 := n1_; have HO287 := n2_; have HB := n3_; clear n0_ n1_ n2_ n3_; clear hb ho28; obtain ⟨Ao29, co29, eo29⟩ := Kd.R_slice HO287.out; subst eo29; have p288 : 0 ≤ ((ji22) : Int) := of_decide_eq_true (by first | (with_reducible assumption) | assumption); have q288 : (ji22) < (y285.length : Int) := of_decide_eq_true (by first | (with_reducible assumption) | assumption); obtain ⟨ad288, e288, hx288_0⟩ := Kd.at_string (Kd.R_reads' HO287.out).2.2 (ji22) p288 q288; cases e288; replace p288 := eq_true p288; replace q288 := eq_true q288) | (at_builtin; refine Kd.R_append_str (w0 := w) w.heap.size rfl (.tmp 21) _ 22 9 5 rfl Try.underlying22 Try.underlying9 info5 u3 x3_1 (rdOf ByteArray.empty y285 (ji22)) (fun _ => True) rfl rfl ?aO ?aF ?aB ?aS ?aL ?_; (case aB => exact (by repeat (first | (with_reducible first | exact HB.out | apply below_alloc | apply pw_below_drewN | apply below_drew1) | exact HB.out))); (case aF => exact (fun _ _ => trivial)); (case aO => exact (by (with_reducible repeat (first | apply Kd.R_alloc | apply Kd.R_drewN | apply Kd.R_drew)); exact HO_3.out)); (case aS => exact (below_size (by repeat (first | (with_reducible first | exact HB.out | apply below_alloc | apply pw_below_drewN | apply below_drew1) | exact HB.out)))); (case aL => have := LMc25.out; omega); intro v290 w30 ho hb hg hat; rw [← Ny289.out] at ho; have n0_ := Aside0.mk (Kd.N_afterv (ok := (fun k_ => some k_ ≠ (.slice (some ad288) y285.length co29 : Value).ownBlock)) (by (with_reducible repeat (first | apply Kd.N_alloc | apply Kd.N_drewN | apply Kd.N_drew)); exact Kd.N_mono HO_4.out (fun _ hk => ⟨hk.2, hk.1⟩)) hg hat); have n1_ := Aside0.mk (Kd.R_over' (by (with_reducible repeat (first | apply Kd.R_alloc | apply Kd.R_drewN | apply Kd.R_drew)); exact HO287.out) (Kd.R_typed (by (with_reducible repeat (first | apply Kd.R_alloc | apply Kd.R_drewN | apply Kd.R_drew)); exact HO_3.out)) (by decide) hg); have n2_ := Aside0.mk (hb); have n3_ := Aside0.mk (ho); clear HO_4; clear HO287; clear HB; clear HO_3; have HO_4 := n0_; have HO287 := n1_; have HB := n2_; have HO291 := n3_; clear n0_ n1_ n2_ n3_; clear ho hb hg hat))
                      go_roundg k1
                      case measure => have := HK1.out; omega
                      case rel => exact ⟨(y289), (wrap64 (x5_1 + 1)), (by first | rfl | (simp; done) | (simp [*]; done)), H', ⟨by have := HK1.out; omega⟩, ⟨by (with_reducible repeat (first | apply Kd.R_alloc | apply Kd.R_drewN | apply Kd.R_drew)); exact HO291.out⟩, ⟨by (with_reducible repeat (first | apply Kd.N_alloc | apply Kd.N_drewN | apply Kd.N_drew)); exact Kd.N_mono HO_4.out (fun _ hk => hk.2)⟩, ⟨by repeat (first | (with_reducible first | exact HB.out | apply below_alloc | apply pw_below_drewN | apply below_drew1) | exact HB.out)⟩⟩
                    · rw [if_neg c25] at H
                      exact absurd H (by simp)
                  · rw [if_neg c24] at H
                    exact absurd H (by simp)
                · rw [if_neg c23] at H
                  exact absurd H (by simp)
        · rw [if_neg c5] at H
          exact absurd H (by simp)
      · rw [if_neg c4] at H
        have c4b0 : decide (x5_1 < (l0.length : Int)) = false := decide_eq_false c4
        clear c4
        obtain rfl := Option.some.inj H
        go_wp2
        go_ret
        exact ⟨_, by first | rfl | (simp [errW_none, errW_some] <;> rfl) | (simp [*, errW_none, errW_some] <;> rfl), by (with_reducible repeat (first | apply Kd.R_alloc | apply Kd.R_drewN | apply Kd.R_drew)); exact HO_3.out, by repeat (first | (with_reducible first | exact HB.out | apply below_alloc | apply pw_below_drewN | apply below_drew1) | exact HB.out)⟩

/-! ### repriseseat_Bytes: function 33 -/
def repriseseat_Bytes.l0 : Nat → List Int → List ByteArray → List Int → Int → Option (List Int)
  | 0, _, _, _, _ => none
  | k + 1, x0, x3, x4, x5 => if x5 < (x0.length : Int) then (if 0 ≤ x5 then (if (x3.length : Int) = 0 then (none) else (if 0 ≤ (Int.tmod (wrap64 (rd x0 x5)) (x3.length : Int)) then (if (Int.tmod (wrap64 (rd x0 x5)) (x3.length : Int)) < (x3.length : Int) then (if x4.length + (rdOf ByteArray.empty x3 (Int.tmod (wrap64 (rd x0 x5)) (x3.length : Int))).size < 140737488355328 then (repriseseat_Bytes.l0 k x0 x3 (x4 ++ bytesOf (rdOf ByteArray.empty x3 (Int.tmod (wrap64 (rd x0 x5)) (x3.length : Int)))) (wrap64 (x5 + 1))) else (none)) else (none)) else (none))) else (none)) else (some x4)
def repriseseat_Bytes.f (k : Nat) (l0 : List Int) : Option (List Int) := repriseseat_Bytes.l0 k l0 (([(⟨#[97, 98]⟩ : ByteArray), (⟨#[120]⟩ : ByteArray), (⟨#[230, 188, 162]⟩ : ByteArray), (⟨#[195, 169]⟩ : ByteArray), (⟨#[13, 10]⟩ : ByteArray), (⟨#[10]⟩ : ByteArray), (⟨#[13]⟩ : ByteArray), (⟨#[8]⟩ : ByteArray), (⟨#[9]⟩ : ByteArray), (⟨#[27, 91, 65]⟩ : ByteArray), (⟨#[27, 91, 51, 66]⟩ : ByteArray), (⟨#[27, 91, 50, 67]⟩ : ByteArray), (⟨#[27, 91, 68]⟩ : ByteArray), (⟨#[27, 91, 50, 59, 51, 72]⟩ : ByteArray), (⟨#[27, 91, 74]⟩ : ByteArray), (⟨#[27, 91, 49, 74]⟩ : ByteArray), (⟨#[27, 91, 50, 74]⟩ : ByteArray), (⟨#[27, 91, 75]⟩ : ByteArray), (⟨#[27, 91, 49, 75]⟩ : ByteArray), (⟨#[27, 91, 76]⟩ : ByteArray), (⟨#[27, 91, 50, 77]⟩ : ByteArray), (⟨#[27, 91, 50, 64]⟩ : ByteArray), (⟨#[27, 91, 80]⟩ : ByteArray), (⟨#[27, 91, 51, 88]⟩ : ByteArray), (⟨#[27, 91, 83]⟩ : ByteArray), (⟨#[27, 91, 84]⟩ : ByteArray), (⟨#[27, 91, 50, 59, 52, 114]⟩ : ByteArray), (⟨#[27, 91, 114]⟩ : ByteArray), (⟨#[27, 77]⟩ : ByteArray), (⟨#[27, 68]⟩ : ByteArray), (⟨#[27, 69]⟩ : ByteArray), (⟨#[27, 55]⟩ : ByteArray), (⟨#[27, 56]⟩ : ByteArray), (⟨#[27, 99]⟩ : ByteArray), (⟨#[27, 72]⟩ : ByteArray), (⟨#[27, 91, 103]⟩ : ByteArray), (⟨#[27, 91, 51, 103]⟩ : ByteArray), (⟨#[27, 91, 49, 59, 51, 49, 109]⟩ : ByteArray), (⟨#[27, 91, 48, 59, 52, 59, 52, 55, 109]⟩ : ByteArray), (⟨#[27, 91, 109]⟩ : ByteArray), (⟨#[27, 91, 63, 55, 108]⟩ : ByteArray), (⟨#[27, 91, 63, 55, 104]⟩ : ByteArray), (⟨#[27, 91, 63, 50, 53, 108]⟩ : ByteArray), (⟨#[27, 91, 63, 49, 48, 52, 57, 104]⟩ : ByteArray), (⟨#[27, 91, 63, 49, 48, 52, 57, 108]⟩ : ByteArray), (⟨#[27, 91, 53, 71]⟩ : ByteArray), (⟨#[27, 91, 50, 100]⟩ : ByteArray), (⟨#[27, 93, 48, 59, 116, 7]⟩ : ByteArray), (⟨#[27, 80, 49, 27, 92]⟩ : ByteArray), (⟨#[230]⟩ : ByteArray), (⟨#[255]⟩ : ByteArray), (⟨#[27, 91]⟩ : ByteArray), (⟨#[27]⟩ : ByteArray), (⟨#[49, 50, 59]⟩ : ByteArray), (⟨#[24]⟩ : ByteArray), (⟨#[97, 98, 99, 100, 101, 102, 103, 104]⟩ : ByteArray), (⟨#[27, 91, 57, 57, 57, 57, 57, 57, 57, 57, 57, 57, 57, 109]⟩ : ByteArray), (⟨#[27, 40, 66]⟩ : ByteArray), (⟨#[27, 91, 49, 58, 50, 109]⟩ : ByteArray), (⟨#[27, 91, 62, 99]⟩ : ByteArray), (⟨#[195]⟩ : ByteArray), (⟨#[169]⟩ : ByteArray), (⟨#[229, 173, 151, 229, 173, 151]⟩ : ByteArray), (⟨#[27, 91, 33, 112]⟩ : ByteArray), (⟨#[204, 129]⟩ : ByteArray), (⟨#[12]⟩ : ByteArray), (⟨#[127]⟩ : ByteArray), (⟨#[27, 91, 59, 72]⟩ : ByteArray), (⟨#[27, 91, 48, 75]⟩ : ByteArray)] : List ByteArray)) ([] : List Int) 0
theorem repriseseat_Bytes.mono_l : ∀ k, (∀ y0 y1 y2 y3, LeO (repriseseat_Bytes.l0 k y0 y1 y2 y3) (repriseseat_Bytes.l0 (k + 1) y0 y1 y2 y3))
  | 0 => fun _ _ _ _ r h => by simp [repriseseat_Bytes.l0] at h
  | k + 1 => by
    have ih0 := repriseseat_Bytes.mono_l k
    · intro y0 y1 y2 y3
      unfold repriseseat_Bytes.l0
      repeat' first
      | (with_reducible exact ih0 _ _ _ _)
      | (with_reducible exact LeO.refl _)
      | (with_reducible exact LeO.none _)
      | (with_reducible refine LeO.ite ?_ ?_)
      | (with_reducible refine LeO.bind ?_ (fun _ => ?_))
      | exact ih0 _ _ _ _
      | exact LeO.none _
      | refine LeO.ite ?_ ?_
      | refine LeO.bind ?_ (fun _ => ?_)
theorem repriseseat_Bytes.mono : ∀ a0 k, LeO (repriseseat_Bytes.f k a0) (repriseseat_Bytes.f (k + 1) a0) := by
  intro a0 k
  have ih0 := repriseseat_Bytes.mono_l k
  unfold repriseseat_Bytes.f
  repeat' first
      | (with_reducible exact ih0 _ _ _ _)
      | (with_reducible exact LeO.refl _)
      | (with_reducible exact LeO.none _)
      | (with_reducible refine LeO.ite ?_ ?_)
      | (with_reducible refine LeO.bind ?_ (fun _ => ?_))
      | exact ih0 _ _ _ _
      | exact LeO.none _
      | refine LeO.ite ?_ ?_
      | refine LeO.bind ?_ (fun _ => ?_)
set_option maxHeartbeats 8000000 in
set_option maxRecDepth 100000 in
theorem repriseseat_Bytes.calls (k : Nat) (A0 : Option Addr) (c0 : Nat) (l0 : List Int) (r : List Int) (w : World) (hr0 : Kd.C (Kd.int .u8) w A0 l0.length l0) (hc0 : l0.length ≤ c0) (h : repriseseat_Bytes.f k l0 = some r) :
    Calls Try.prog 33 #[.slice A0 l0.length c0] w fun e w' => ∃ v0_ : Value, e = .returned (v0_) ∧ Kd.R (Kd.int .u8) 5 w' w.heap.size (fun _ => True) v0_ r ∧ Below w.heap.size w w' := by
  have HR0 := Aside0.mk hr0
  have HC0 := Aside0.mk hc0
  clear hr0 hc0
  have HB := Aside0.mk (Below.refl w.heap.size w)
  have H : (repriseseat_Bytes.l0 k l0 (([(⟨#[97, 98]⟩ : ByteArray), (⟨#[120]⟩ : ByteArray), (⟨#[230, 188, 162]⟩ : ByteArray), (⟨#[195, 169]⟩ : ByteArray), (⟨#[13, 10]⟩ : ByteArray), (⟨#[10]⟩ : ByteArray), (⟨#[13]⟩ : ByteArray), (⟨#[8]⟩ : ByteArray), (⟨#[9]⟩ : ByteArray), (⟨#[27, 91, 65]⟩ : ByteArray), (⟨#[27, 91, 51, 66]⟩ : ByteArray), (⟨#[27, 91, 50, 67]⟩ : ByteArray), (⟨#[27, 91, 68]⟩ : ByteArray), (⟨#[27, 91, 50, 59, 51, 72]⟩ : ByteArray), (⟨#[27, 91, 74]⟩ : ByteArray), (⟨#[27, 91, 49, 74]⟩ : ByteArray), (⟨#[27, 91, 50, 74]⟩ : ByteArray), (⟨#[27, 91, 75]⟩ : ByteArray), (⟨#[27, 91, 49, 75]⟩ : ByteArray), (⟨#[27, 91, 76]⟩ : ByteArray), (⟨#[27, 91, 50, 77]⟩ : ByteArray), (⟨#[27, 91, 50, 64]⟩ : ByteArray), (⟨#[27, 91, 80]⟩ : ByteArray), (⟨#[27, 91, 51, 88]⟩ : ByteArray), (⟨#[27, 91, 83]⟩ : ByteArray), (⟨#[27, 91, 84]⟩ : ByteArray), (⟨#[27, 91, 50, 59, 52, 114]⟩ : ByteArray), (⟨#[27, 91, 114]⟩ : ByteArray), (⟨#[27, 77]⟩ : ByteArray), (⟨#[27, 68]⟩ : ByteArray), (⟨#[27, 69]⟩ : ByteArray), (⟨#[27, 55]⟩ : ByteArray), (⟨#[27, 56]⟩ : ByteArray), (⟨#[27, 99]⟩ : ByteArray), (⟨#[27, 72]⟩ : ByteArray), (⟨#[27, 91, 103]⟩ : ByteArray), (⟨#[27, 91, 51, 103]⟩ : ByteArray), (⟨#[27, 91, 49, 59, 51, 49, 109]⟩ : ByteArray), (⟨#[27, 91, 48, 59, 52, 59, 52, 55, 109]⟩ : ByteArray), (⟨#[27, 91, 109]⟩ : ByteArray), (⟨#[27, 91, 63, 55, 108]⟩ : ByteArray), (⟨#[27, 91, 63, 55, 104]⟩ : ByteArray), (⟨#[27, 91, 63, 50, 53, 108]⟩ : ByteArray), (⟨#[27, 91, 63, 49, 48, 52, 57, 104]⟩ : ByteArray), (⟨#[27, 91, 63, 49, 48, 52, 57, 108]⟩ : ByteArray), (⟨#[27, 91, 53, 71]⟩ : ByteArray), (⟨#[27, 91, 50, 100]⟩ : ByteArray), (⟨#[27, 93, 48, 59, 116, 7]⟩ : ByteArray), (⟨#[27, 80, 49, 27, 92]⟩ : ByteArray), (⟨#[230]⟩ : ByteArray), (⟨#[255]⟩ : ByteArray), (⟨#[27, 91]⟩ : ByteArray), (⟨#[27]⟩ : ByteArray), (⟨#[49, 50, 59]⟩ : ByteArray), (⟨#[24]⟩ : ByteArray), (⟨#[97, 98, 99, 100, 101, 102, 103, 104]⟩ : ByteArray), (⟨#[27, 91, 57, 57, 57, 57, 57, 57, 57, 57, 57, 57, 57, 109]⟩ : ByteArray), (⟨#[27, 40, 66]⟩ : ByteArray), (⟨#[27, 91, 49, 58, 50, 109]⟩ : ByteArray), (⟨#[27, 91, 62, 99]⟩ : ByteArray), (⟨#[195]⟩ : ByteArray), (⟨#[169]⟩ : ByteArray), (⟨#[229, 173, 151, 229, 173, 151]⟩ : ByteArray), (⟨#[27, 91, 33, 112]⟩ : ByteArray), (⟨#[204, 129]⟩ : ByteArray), (⟨#[12]⟩ : ByteArray), (⟨#[127]⟩ : ByteArray), (⟨#[27, 91, 59, 72]⟩ : ByteArray), (⟨#[27, 91, 48, 75]⟩ : ByteArray)] : List ByteArray)) ([] : List Int) 0) = some r := h
  clear h
  obtain ⟨y292, hy292⟩ : ∃ y_ : List ByteArray, y_ = (([(⟨#[97, 98]⟩ : ByteArray), (⟨#[120]⟩ : ByteArray), (⟨#[230, 188, 162]⟩ : ByteArray), (⟨#[195, 169]⟩ : ByteArray), (⟨#[13, 10]⟩ : ByteArray), (⟨#[10]⟩ : ByteArray), (⟨#[13]⟩ : ByteArray), (⟨#[8]⟩ : ByteArray), (⟨#[9]⟩ : ByteArray), (⟨#[27, 91, 65]⟩ : ByteArray), (⟨#[27, 91, 51, 66]⟩ : ByteArray), (⟨#[27, 91, 50, 67]⟩ : ByteArray), (⟨#[27, 91, 68]⟩ : ByteArray), (⟨#[27, 91, 50, 59, 51, 72]⟩ : ByteArray), (⟨#[27, 91, 74]⟩ : ByteArray), (⟨#[27, 91, 49, 74]⟩ : ByteArray), (⟨#[27, 91, 50, 74]⟩ : ByteArray), (⟨#[27, 91, 75]⟩ : ByteArray), (⟨#[27, 91, 49, 75]⟩ : ByteArray), (⟨#[27, 91, 76]⟩ : ByteArray), (⟨#[27, 91, 50, 77]⟩ : ByteArray), (⟨#[27, 91, 50, 64]⟩ : ByteArray), (⟨#[27, 91, 80]⟩ : ByteArray), (⟨#[27, 91, 51, 88]⟩ : ByteArray), (⟨#[27, 91, 83]⟩ : ByteArray), (⟨#[27, 91, 84]⟩ : ByteArray), (⟨#[27, 91, 50, 59, 52, 114]⟩ : ByteArray), (⟨#[27, 91, 114]⟩ : ByteArray), (⟨#[27, 77]⟩ : ByteArray), (⟨#[27, 68]⟩ : ByteArray), (⟨#[27, 69]⟩ : ByteArray), (⟨#[27, 55]⟩ : ByteArray), (⟨#[27, 56]⟩ : ByteArray), (⟨#[27, 99]⟩ : ByteArray), (⟨#[27, 72]⟩ : ByteArray), (⟨#[27, 91, 103]⟩ : ByteArray), (⟨#[27, 91, 51, 103]⟩ : ByteArray), (⟨#[27, 91, 49, 59, 51, 49, 109]⟩ : ByteArray), (⟨#[27, 91, 48, 59, 52, 59, 52, 55, 109]⟩ : ByteArray), (⟨#[27, 91, 109]⟩ : ByteArray), (⟨#[27, 91, 63, 55, 108]⟩ : ByteArray), (⟨#[27, 91, 63, 55, 104]⟩ : ByteArray), (⟨#[27, 91, 63, 50, 53, 108]⟩ : ByteArray), (⟨#[27, 91, 63, 49, 48, 52, 57, 104]⟩ : ByteArray), (⟨#[27, 91, 63, 49, 48, 52, 57, 108]⟩ : ByteArray), (⟨#[27, 91, 53, 71]⟩ : ByteArray), (⟨#[27, 91, 50, 100]⟩ : ByteArray), (⟨#[27, 93, 48, 59, 116, 7]⟩ : ByteArray), (⟨#[27, 80, 49, 27, 92]⟩ : ByteArray), (⟨#[230]⟩ : ByteArray), (⟨#[255]⟩ : ByteArray), (⟨#[27, 91]⟩ : ByteArray), (⟨#[27]⟩ : ByteArray), (⟨#[49, 50, 59]⟩ : ByteArray), (⟨#[24]⟩ : ByteArray), (⟨#[97, 98, 99, 100, 101, 102, 103, 104]⟩ : ByteArray), (⟨#[27, 91, 57, 57, 57, 57, 57, 57, 57, 57, 57, 57, 57, 109]⟩ : ByteArray), (⟨#[27, 40, 66]⟩ : ByteArray), (⟨#[27, 91, 49, 58, 50, 109]⟩ : ByteArray), (⟨#[27, 91, 62, 99]⟩ : ByteArray), (⟨#[195]⟩ : ByteArray), (⟨#[169]⟩ : ByteArray), (⟨#[229, 173, 151, 229, 173, 151]⟩ : ByteArray), (⟨#[27, 91, 33, 112]⟩ : ByteArray), (⟨#[204, 129]⟩ : ByteArray), (⟨#[12]⟩ : ByteArray), (⟨#[127]⟩ : ByteArray), (⟨#[27, 91, 59, 72]⟩ : ByteArray), (⟨#[27, 91, 48, 75]⟩ : ByteArray)] : List ByteArray)) := ⟨_, rfl⟩
  replace H : (repriseseat_Bytes.l0 k l0 y292 ([] : List Int) 0) = some r := by first | (rw [hy292]; with_reducible exact H) | (have H2_ := (Option.bind_some _ _).symm.trans H; rw [hy292]; with_reducible exact H2_) | (have H2_ := (Option.bind_some _ _).symm.trans H; with_reducible exact H2_) | with_reducible exact H | (rw [hy292]; exact H) | exact H
  have Ny292 := Aside0.mk hy292
  clear hy292
  have H' := Aside0.mk H
  clear H
  go_enter Try.func33, Try.ntmps33
  go_wp2_with (first | ((with_reducible refine gate_dst (N := 6) rfl ?_); refine Kd.R_lit Kd.string _ 9 ?hg (N := 6) ?hd (xs := ([(⟨#[97, 98]⟩ : ByteArray), (⟨#[120]⟩ : ByteArray), (⟨#[230, 188, 162]⟩ : ByteArray), (⟨#[195, 169]⟩ : ByteArray), (⟨#[13, 10]⟩ : ByteArray), (⟨#[10]⟩ : ByteArray), (⟨#[13]⟩ : ByteArray), (⟨#[8]⟩ : ByteArray), (⟨#[9]⟩ : ByteArray), (⟨#[27, 91, 65]⟩ : ByteArray), (⟨#[27, 91, 51, 66]⟩ : ByteArray), (⟨#[27, 91, 50, 67]⟩ : ByteArray), (⟨#[27, 91, 68]⟩ : ByteArray), (⟨#[27, 91, 50, 59, 51, 72]⟩ : ByteArray), (⟨#[27, 91, 74]⟩ : ByteArray), (⟨#[27, 91, 49, 74]⟩ : ByteArray), (⟨#[27, 91, 50, 74]⟩ : ByteArray), (⟨#[27, 91, 75]⟩ : ByteArray), (⟨#[27, 91, 49, 75]⟩ : ByteArray), (⟨#[27, 91, 76]⟩ : ByteArray), (⟨#[27, 91, 50, 77]⟩ : ByteArray), (⟨#[27, 91, 50, 64]⟩ : ByteArray), (⟨#[27, 91, 80]⟩ : ByteArray), (⟨#[27, 91, 51, 88]⟩ : ByteArray), (⟨#[27, 91, 83]⟩ : ByteArray), (⟨#[27, 91, 84]⟩ : ByteArray), (⟨#[27, 91, 50, 59, 52, 114]⟩ : ByteArray), (⟨#[27, 91, 114]⟩ : ByteArray), (⟨#[27, 77]⟩ : ByteArray), (⟨#[27, 68]⟩ : ByteArray), (⟨#[27, 69]⟩ : ByteArray), (⟨#[27, 55]⟩ : ByteArray), (⟨#[27, 56]⟩ : ByteArray), (⟨#[27, 99]⟩ : ByteArray), (⟨#[27, 72]⟩ : ByteArray), (⟨#[27, 91, 103]⟩ : ByteArray), (⟨#[27, 91, 51, 103]⟩ : ByteArray), (⟨#[27, 91, 49, 59, 51, 49, 109]⟩ : ByteArray), (⟨#[27, 91, 48, 59, 52, 59, 52, 55, 109]⟩ : ByteArray), (⟨#[27, 91, 109]⟩ : ByteArray), (⟨#[27, 91, 63, 55, 108]⟩ : ByteArray), (⟨#[27, 91, 63, 55, 104]⟩ : ByteArray), (⟨#[27, 91, 63, 50, 53, 108]⟩ : ByteArray), (⟨#[27, 91, 63, 49, 48, 52, 57, 104]⟩ : ByteArray), (⟨#[27, 91, 63, 49, 48, 52, 57, 108]⟩ : ByteArray), (⟨#[27, 91, 53, 71]⟩ : ByteArray), (⟨#[27, 91, 50, 100]⟩ : ByteArray), (⟨#[27, 93, 48, 59, 116, 7]⟩ : ByteArray), (⟨#[27, 80, 49, 27, 92]⟩ : ByteArray), (⟨#[230]⟩ : ByteArray), (⟨#[255]⟩ : ByteArray), (⟨#[27, 91]⟩ : ByteArray), (⟨#[27]⟩ : ByteArray), (⟨#[49, 50, 59]⟩ : ByteArray), (⟨#[24]⟩ : ByteArray), (⟨#[97, 98, 99, 100, 101, 102, 103, 104]⟩ : ByteArray), (⟨#[27, 91, 57, 57, 57, 57, 57, 57, 57, 57, 57, 57, 57, 109]⟩ : ByteArray), (⟨#[27, 40, 66]⟩ : ByteArray), (⟨#[27, 91, 49, 58, 50, 109]⟩ : ByteArray), (⟨#[27, 91, 62, 99]⟩ : ByteArray), (⟨#[195]⟩ : ByteArray), (⟨#[169]⟩ : ByteArray), (⟨#[229, 173, 151, 229, 173, 151]⟩ : ByteArray), (⟨#[27, 91, 33, 112]⟩ : ByteArray), (⟨#[204, 129]⟩ : ByteArray), (⟨#[12]⟩ : ByteArray), (⟨#[127]⟩ : ByteArray), (⟨#[27, 91, 59, 72]⟩ : ByteArray), (⟨#[27, 91, 48, 75]⟩ : ByteArray)] : List ByteArray)) (inner := [.string (⟨#[97, 98]⟩ : ByteArray), .string (⟨#[120]⟩ : ByteArray), .string (⟨#[230, 188, 162]⟩ : ByteArray), .string (⟨#[195, 169]⟩ : ByteArray), .string (⟨#[13, 10]⟩ : ByteArray), .string (⟨#[10]⟩ : ByteArray), .string (⟨#[13]⟩ : ByteArray), .string (⟨#[8]⟩ : ByteArray), .string (⟨#[9]⟩ : ByteArray), .string (⟨#[27, 91, 65]⟩ : ByteArray), .string (⟨#[27, 91, 51, 66]⟩ : ByteArray), .string (⟨#[27, 91, 50, 67]⟩ : ByteArray), .string (⟨#[27, 91, 68]⟩ : ByteArray), .string (⟨#[27, 91, 50, 59, 51, 72]⟩ : ByteArray), .string (⟨#[27, 91, 74]⟩ : ByteArray), .string (⟨#[27, 91, 49, 74]⟩ : ByteArray), .string (⟨#[27, 91, 50, 74]⟩ : ByteArray), .string (⟨#[27, 91, 75]⟩ : ByteArray), .string (⟨#[27, 91, 49, 75]⟩ : ByteArray), .string (⟨#[27, 91, 76]⟩ : ByteArray), .string (⟨#[27, 91, 50, 77]⟩ : ByteArray), .string (⟨#[27, 91, 50, 64]⟩ : ByteArray), .string (⟨#[27, 91, 80]⟩ : ByteArray), .string (⟨#[27, 91, 51, 88]⟩ : ByteArray), .string (⟨#[27, 91, 83]⟩ : ByteArray), .string (⟨#[27, 91, 84]⟩ : ByteArray), .string (⟨#[27, 91, 50, 59, 52, 114]⟩ : ByteArray), .string (⟨#[27, 91, 114]⟩ : ByteArray), .string (⟨#[27, 77]⟩ : ByteArray), .string (⟨#[27, 68]⟩ : ByteArray), .string (⟨#[27, 69]⟩ : ByteArray), .string (⟨#[27, 55]⟩ : ByteArray), .string (⟨#[27, 56]⟩ : ByteArray), .string (⟨#[27, 99]⟩ : ByteArray), .string (⟨#[27, 72]⟩ : ByteArray), .string (⟨#[27, 91, 103]⟩ : ByteArray), .string (⟨#[27, 91, 51, 103]⟩ : ByteArray), .string (⟨#[27, 91, 49, 59, 51, 49, 109]⟩ : ByteArray), .string (⟨#[27, 91, 48, 59, 52, 59, 52, 55, 109]⟩ : ByteArray), .string (⟨#[27, 91, 109]⟩ : ByteArray), .string (⟨#[27, 91, 63, 55, 108]⟩ : ByteArray), .string (⟨#[27, 91, 63, 55, 104]⟩ : ByteArray), .string (⟨#[27, 91, 63, 50, 53, 108]⟩ : ByteArray), .string (⟨#[27, 91, 63, 49, 48, 52, 57, 104]⟩ : ByteArray), .string (⟨#[27, 91, 63, 49, 48, 52, 57, 108]⟩ : ByteArray), .string (⟨#[27, 91, 53, 71]⟩ : ByteArray), .string (⟨#[27, 91, 50, 100]⟩ : ByteArray), .string (⟨#[27, 93, 48, 59, 116, 7]⟩ : ByteArray), .string (⟨#[27, 80, 49, 27, 92]⟩ : ByteArray), .string (⟨#[230]⟩ : ByteArray), .string (⟨#[255]⟩ : ByteArray), .string (⟨#[27, 91]⟩ : ByteArray), .string (⟨#[27]⟩ : ByteArray), .string (⟨#[49, 50, 59]⟩ : ByteArray), .string (⟨#[24]⟩ : ByteArray), .string (⟨#[97, 98, 99, 100, 101, 102, 103, 104]⟩ : ByteArray), .string (⟨#[27, 91, 57, 57, 57, 57, 57, 57, 57, 57, 57, 57, 57, 109]⟩ : ByteArray), .string (⟨#[27, 40, 66]⟩ : ByteArray), .string (⟨#[27, 91, 49, 58, 50, 109]⟩ : ByteArray), .string (⟨#[27, 91, 62, 99]⟩ : ByteArray), .string (⟨#[195]⟩ : ByteArray), .string (⟨#[169]⟩ : ByteArray), .string (⟨#[229, 173, 151, 229, 173, 151]⟩ : ByteArray), .string (⟨#[27, 91, 33, 112]⟩ : ByteArray), .string (⟨#[204, 129]⟩ : ByteArray), .string (⟨#[12]⟩ : ByteArray), .string (⟨#[127]⟩ : ByteArray), .string (⟨#[27, 91, 59, 72]⟩ : ByteArray), .string (⟨#[27, 91, 48, 75]⟩ : ByteArray)]) (ok := fun _ => True) (okp := fun _ => True) ?hr ?hp (fun _ hk => hk) trivial (Below.refl _ _) (Nat.le_refl _) (by simp) ?_; (case hd => rfl); (case hg => rfl); (case hr => first | (go_simp; done) | (go_simp; rfl)); (case hp => exact (Reps.one (show Kd.M Kd.string _ _ _ (⟨#[97, 98]⟩ : ByteArray) [.string (⟨#[97, 98]⟩ : ByteArray)] from rfl) (Reps.one (show Kd.M Kd.string _ _ _ (⟨#[120]⟩ : ByteArray) [.string (⟨#[120]⟩ : ByteArray)] from rfl) (Reps.one (show Kd.M Kd.string _ _ _ (⟨#[230, 188, 162]⟩ : ByteArray) [.string (⟨#[230, 188, 162]⟩ : ByteArray)] from rfl) (Reps.one (show Kd.M Kd.string _ _ _ (⟨#[195, 169]⟩ : ByteArray) [.string (⟨#[195, 169]⟩ : ByteArray)] from rfl) (Reps.one (show Kd.M Kd.string _ _ _ (⟨#[13, 10]⟩ : ByteArray) [.string (⟨#[13, 10]⟩ : ByteArray)] from rfl) (Reps.one (show Kd.M Kd.string _ _ _ (⟨#[10]⟩ : ByteArray) [.string (⟨#[10]⟩ : ByteArray)] from rfl) (Reps.one (show Kd.M Kd.string _ _ _ (⟨#[13]⟩ : ByteArray) [.string (⟨#[13]⟩ : ByteArray)] from rfl) (Reps.one (show Kd.M Kd.string _ _ _ (⟨#[8]⟩ : ByteArray) [.string (⟨#[8]⟩ : ByteArray)] from rfl) (Reps.one (show Kd.M Kd.string _ _ _ (⟨#[9]⟩ : ByteArray) [.string (⟨#[9]⟩ : ByteArray)] from rfl) (Reps.one (show Kd.M Kd.string _ _ _ (⟨#[27, 91, 65]⟩ : ByteArray) [.string (⟨#[27, 91, 65]⟩ : ByteArray)] from rfl) (Reps.one (show Kd.M Kd.string _ _ _ (⟨#[27, 91, 51, 66]⟩ : ByteArray) [.string (⟨#[27, 91, 51, 66]⟩ : ByteArray)] from rfl) (Reps.one (show Kd.M Kd.string _ _ _ (⟨#[27, 91, 50, 67]⟩ : ByteArray) [.string (⟨#[27, 91, 50, 67]⟩ : ByteArray)] from rfl) (Reps.one (show Kd.M Kd.string _ _ _ (⟨#[27, 91, 68]⟩ : ByteArray) [.string (⟨#[27, 91, 68]⟩ : ByteArray)] from rfl) (Reps.one (show Kd.M Kd.string _ _ _ (⟨#[27, 91, 50, 59, 51, 72]⟩ : ByteArray) [.string (⟨#[27, 91, 50, 59, 51, 72]⟩ : ByteArray)] from rfl) (Reps.one (show Kd.M Kd.string _ _ _ (⟨#[27, 91, 74]⟩ : ByteArray) [.string (⟨#[27, 91, 74]⟩ : ByteArray)] from rfl) (Reps.one (show Kd.M Kd.string _ _ _ (⟨#[27, 91, 49, 74]⟩ : ByteArray) [.string (⟨#[27, 91, 49, 74]⟩ : ByteArray)] from rfl) (Reps.one (show Kd.M Kd.string _ _ _ (⟨#[27, 91, 50, 74]⟩ : ByteArray) [.string (⟨#[27, 91, 50, 74]⟩ : ByteArray)] from rfl) (Reps.one (show Kd.M Kd.string _ _ _ (⟨#[27, 91, 75]⟩ : ByteArray) [.string (⟨#[27, 91, 75]⟩ : ByteArray)] from rfl) (Reps.one (show Kd.M Kd.string _ _ _ (⟨#[27, 91, 49, 75]⟩ : ByteArray) [.string (⟨#[27, 91, 49, 75]⟩ : ByteArray)] from rfl) (Reps.one (show Kd.M Kd.string _ _ _ (⟨#[27, 91, 76]⟩ : ByteArray) [.string (⟨#[27, 91, 76]⟩ : ByteArray)] from rfl) (Reps.one (show Kd.M Kd.string _ _ _ (⟨#[27, 91, 50, 77]⟩ : ByteArray) [.string (⟨#[27, 91, 50, 77]⟩ : ByteArray)] from rfl) (Reps.one (show Kd.M Kd.string _ _ _ (⟨#[27, 91, 50, 64]⟩ : ByteArray) [.string (⟨#[27, 91, 50, 64]⟩ : ByteArray)] from rfl) (Reps.one (show Kd.M Kd.string _ _ _ (⟨#[27, 91, 80]⟩ : ByteArray) [.string (⟨#[27, 91, 80]⟩ : ByteArray)] from rfl) (Reps.one (show Kd.M Kd.string _ _ _ (⟨#[27, 91, 51, 88]⟩ : ByteArray) [.string (⟨#[27, 91, 51, 88]⟩ : ByteArray)] from rfl) (Reps.one (show Kd.M Kd.string _ _ _ (⟨#[27, 91, 83]⟩ : ByteArray) [.string (⟨#[27, 91, 83]⟩ : ByteArray)] from rfl) (Reps.one (show Kd.M Kd.string _ _ _ (⟨#[27, 91, 84]⟩ : ByteArray) [.string (⟨#[27, 91, 84]⟩ : ByteArray)] from rfl) (Reps.one (show Kd.M Kd.string _ _ _ (⟨#[27, 91, 50, 59, 52, 114]⟩ : ByteArray) [.string (⟨#[27, 91, 50, 59, 52, 114]⟩ : ByteArray)] from rfl) (Reps.one (show Kd.M Kd.string _ _ _ (⟨#[27, 91, 114]⟩ : ByteArray) [.string (⟨#[27, 91, 114]⟩ : ByteArray)] from rfl) (Reps.one (show Kd.M Kd.string _ _ _ (⟨#[27, 77]⟩ : ByteArray) [.string (⟨#[27, 77]⟩ : ByteArray)] from rfl) (Reps.one (show Kd.M Kd.string _ _ _ (⟨#[27, 68]⟩ : ByteArray) [.string (⟨#[27, 68]⟩ : ByteArray)] from rfl) (Reps.one (show Kd.M Kd.string _ _ _ (⟨#[27, 69]⟩ : ByteArray) [.string (⟨#[27, 69]⟩ : ByteArray)] from rfl) (Reps.one (show Kd.M Kd.string _ _ _ (⟨#[27, 55]⟩ : ByteArray) [.string (⟨#[27, 55]⟩ : ByteArray)] from rfl) (Reps.one (show Kd.M Kd.string _ _ _ (⟨#[27, 56]⟩ : ByteArray) [.string (⟨#[27, 56]⟩ : ByteArray)] from rfl) (Reps.one (show Kd.M Kd.string _ _ _ (⟨#[27, 99]⟩ : ByteArray) [.string (⟨#[27, 99]⟩ : ByteArray)] from rfl) (Reps.one (show Kd.M Kd.string _ _ _ (⟨#[27, 72]⟩ : ByteArray) [.string (⟨#[27, 72]⟩ : ByteArray)] from rfl) (Reps.one (show Kd.M Kd.string _ _ _ (⟨#[27, 91, 103]⟩ : ByteArray) [.string (⟨#[27, 91, 103]⟩ : ByteArray)] from rfl) (Reps.one (show Kd.M Kd.string _ _ _ (⟨#[27, 91, 51, 103]⟩ : ByteArray) [.string (⟨#[27, 91, 51, 103]⟩ : ByteArray)] from rfl) (Reps.one (show Kd.M Kd.string _ _ _ (⟨#[27, 91, 49, 59, 51, 49, 109]⟩ : ByteArray) [.string (⟨#[27, 91, 49, 59, 51, 49, 109]⟩ : ByteArray)] from rfl) (Reps.one (show Kd.M Kd.string _ _ _ (⟨#[27, 91, 48, 59, 52, 59, 52, 55, 109]⟩ : ByteArray) [.string (⟨#[27, 91, 48, 59, 52, 59, 52, 55, 109]⟩ : ByteArray)] from rfl) (Reps.one (show Kd.M Kd.string _ _ _ (⟨#[27, 91, 109]⟩ : ByteArray) [.string (⟨#[27, 91, 109]⟩ : ByteArray)] from rfl) (Reps.one (show Kd.M Kd.string _ _ _ (⟨#[27, 91, 63, 55, 108]⟩ : ByteArray) [.string (⟨#[27, 91, 63, 55, 108]⟩ : ByteArray)] from rfl) (Reps.one (show Kd.M Kd.string _ _ _ (⟨#[27, 91, 63, 55, 104]⟩ : ByteArray) [.string (⟨#[27, 91, 63, 55, 104]⟩ : ByteArray)] from rfl) (Reps.one (show Kd.M Kd.string _ _ _ (⟨#[27, 91, 63, 50, 53, 108]⟩ : ByteArray) [.string (⟨#[27, 91, 63, 50, 53, 108]⟩ : ByteArray)] from rfl) (Reps.one (show Kd.M Kd.string _ _ _ (⟨#[27, 91, 63, 49, 48, 52, 57, 104]⟩ : ByteArray) [.string (⟨#[27, 91, 63, 49, 48, 52, 57, 104]⟩ : ByteArray)] from rfl) (Reps.one (show Kd.M Kd.string _ _ _ (⟨#[27, 91, 63, 49, 48, 52, 57, 108]⟩ : ByteArray) [.string (⟨#[27, 91, 63, 49, 48, 52, 57, 108]⟩ : ByteArray)] from rfl) (Reps.one (show Kd.M Kd.string _ _ _ (⟨#[27, 91, 53, 71]⟩ : ByteArray) [.string (⟨#[27, 91, 53, 71]⟩ : ByteArray)] from rfl) (Reps.one (show Kd.M Kd.string _ _ _ (⟨#[27, 91, 50, 100]⟩ : ByteArray) [.string (⟨#[27, 91, 50, 100]⟩ : ByteArray)] from rfl) (Reps.one (show Kd.M Kd.string _ _ _ (⟨#[27, 93, 48, 59, 116, 7]⟩ : ByteArray) [.string (⟨#[27, 93, 48, 59, 116, 7]⟩ : ByteArray)] from rfl) (Reps.one (show Kd.M Kd.string _ _ _ (⟨#[27, 80, 49, 27, 92]⟩ : ByteArray) [.string (⟨#[27, 80, 49, 27, 92]⟩ : ByteArray)] from rfl) (Reps.one (show Kd.M Kd.string _ _ _ (⟨#[230]⟩ : ByteArray) [.string (⟨#[230]⟩ : ByteArray)] from rfl) (Reps.one (show Kd.M Kd.string _ _ _ (⟨#[255]⟩ : ByteArray) [.string (⟨#[255]⟩ : ByteArray)] from rfl) (Reps.one (show Kd.M Kd.string _ _ _ (⟨#[27, 91]⟩ : ByteArray) [.string (⟨#[27, 91]⟩ : ByteArray)] from rfl) (Reps.one (show Kd.M Kd.string _ _ _ (⟨#[27]⟩ : ByteArray) [.string (⟨#[27]⟩ : ByteArray)] from rfl) (Reps.one (show Kd.M Kd.string _ _ _ (⟨#[49, 50, 59]⟩ : ByteArray) [.string (⟨#[49, 50, 59]⟩ : ByteArray)] from rfl) (Reps.one (show Kd.M Kd.string _ _ _ (⟨#[24]⟩ : ByteArray) [.string (⟨#[24]⟩ : ByteArray)] from rfl) (Reps.one (show Kd.M Kd.string _ _ _ (⟨#[97, 98, 99, 100, 101, 102, 103, 104]⟩ : ByteArray) [.string (⟨#[97, 98, 99, 100, 101, 102, 103, 104]⟩ : ByteArray)] from rfl) (Reps.one (show Kd.M Kd.string _ _ _ (⟨#[27, 91, 57, 57, 57, 57, 57, 57, 57, 57, 57, 57, 57, 109]⟩ : ByteArray) [.string (⟨#[27, 91, 57, 57, 57, 57, 57, 57, 57, 57, 57, 57, 57, 109]⟩ : ByteArray)] from rfl) (Reps.one (show Kd.M Kd.string _ _ _ (⟨#[27, 40, 66]⟩ : ByteArray) [.string (⟨#[27, 40, 66]⟩ : ByteArray)] from rfl) (Reps.one (show Kd.M Kd.string _ _ _ (⟨#[27, 91, 49, 58, 50, 109]⟩ : ByteArray) [.string (⟨#[27, 91, 49, 58, 50, 109]⟩ : ByteArray)] from rfl) (Reps.one (show Kd.M Kd.string _ _ _ (⟨#[27, 91, 62, 99]⟩ : ByteArray) [.string (⟨#[27, 91, 62, 99]⟩ : ByteArray)] from rfl) (Reps.one (show Kd.M Kd.string _ _ _ (⟨#[195]⟩ : ByteArray) [.string (⟨#[195]⟩ : ByteArray)] from rfl) (Reps.one (show Kd.M Kd.string _ _ _ (⟨#[169]⟩ : ByteArray) [.string (⟨#[169]⟩ : ByteArray)] from rfl) (Reps.one (show Kd.M Kd.string _ _ _ (⟨#[229, 173, 151, 229, 173, 151]⟩ : ByteArray) [.string (⟨#[229, 173, 151, 229, 173, 151]⟩ : ByteArray)] from rfl) (Reps.one (show Kd.M Kd.string _ _ _ (⟨#[27, 91, 33, 112]⟩ : ByteArray) [.string (⟨#[27, 91, 33, 112]⟩ : ByteArray)] from rfl) (Reps.one (show Kd.M Kd.string _ _ _ (⟨#[204, 129]⟩ : ByteArray) [.string (⟨#[204, 129]⟩ : ByteArray)] from rfl) (Reps.one (show Kd.M Kd.string _ _ _ (⟨#[12]⟩ : ByteArray) [.string (⟨#[12]⟩ : ByteArray)] from rfl) (Reps.one (show Kd.M Kd.string _ _ _ (⟨#[127]⟩ : ByteArray) [.string (⟨#[127]⟩ : ByteArray)] from rfl) (Reps.one (show Kd.M Kd.string _ _ _ (⟨#[27, 91, 59, 72]⟩ : ByteArray) [.string (⟨#[27, 91, 59, 72]⟩ : ByteArray)] from rfl) (Reps.one (show Kd.M Kd.string _ _ _ (⟨#[27, 91, 48, 75]⟩ : ByteArray) [.string (⟨#[27, 91, 48, 75]⟩ : ByteArray)] from rfl) (Reps.none _ _))))))))))))))))))))))))))))))))))))))))))))))))))))))))))))))))))))))); intro v293 w2 ho3 hb hg_ hnew_; clear hg_ hnew_; (first | rw [← Ny292.out] at ho3 | (simp only [Int.reduceToNat] at ho3; rw [← Ny292.out] at ho3)); have n0_ := Aside0.mk (Kd.R_lower ho3 (below_size (by repeat (first | (with_reducible first | exact HB.out | apply below_alloc | apply pw_below_drewN | apply below_drew1) | exact HB.out)))); have n1_ := Aside0.mk (below_step (by repeat (first | (with_reducible first | exact HB.out | apply below_alloc | apply pw_below_drewN | apply below_drew1) | exact HB.out)) hb); clear HB; have HO294 := n0_; have HB := n1_; clear n0_ n1_; clear hb ho3))
  go_loopg [4, 5] k (fun kq v4 v5 w' => ∃ (x4_1 : List Int) (x5_1 : Int), v5 = .int .i64 x5_1 ∧ Aside0 (repriseseat_Bytes.l0 kq l0 y292 x4_1 x5_1 = some r) ∧ Aside0 (kq ≤ k) ∧ Aside0 (Kd.R Kd.string 9 w' w.heap.size (fun _ => True) v293 y292) ∧ Aside0 (Kd.R (Kd.int .u8) 5 w' w.heap.size (fun _ => True) v4 x4_1) ∧ Aside0 (Below w.heap.size w w'))
  case atStart => exact ⟨(([] : List Int)), (0), (by first | rfl | (simp; done) | (simp [*]; done)), H', ⟨Nat.le_refl _⟩, ⟨by (with_reducible repeat (first | apply Kd.R_alloc | apply Kd.R_drewN | apply Kd.R_drew)); exact HO294.out⟩, ⟨by first | exact Kd.R_nil _ _ _ _ _ | exact Kd.N_nil _ _ _ _ _ | exact Kd.V_nil _ _ _ _ _ | exact Kd.Q_nil _ _ _ _ _ | exact Kd.S_nil _ _ _ _ _⟩, ⟨by repeat (first | (with_reducible first | exact HB.out | apply below_alloc | apply pw_below_drewN | apply below_drew1) | exact HB.out)⟩⟩
  case round =>
    clear H'
    try clear p2
    try clear c3
    obtain ⟨x4_1, x5_1, rfl, HA, HK1, HO_3, HO_4, HB⟩ := hrel
    cases gk with
    | zero => exact absurd HA.out (by simp [repriseseat_Bytes.l0])
    | succ k1 =>
      have H := HA.out
      clear HA
      simp only [repriseseat_Bytes.l0] at H
      by_cases c4 : x5_1 < (l0.length : Int)
      · rw [if_pos c4] at H
        have c4b0 : decide (x5_1 < (l0.length : Int)) = true := decide_eq_true c4
        clear c4
        by_cases c5 : 0 ≤ x5_1
        · rw [if_pos c5] at H
          have c5b0 : decide (0 ≤ x5_1) = true := decide_eq_true c5
          clear c5
          by_cases c6 : (y292.length : Int) = 0
          · rw [if_pos c6] at H
            exact absurd H (by simp)
          · rw [if_neg c6] at H
            have c6b0 : ((y292.length : Int) == 0) = false := beq_eq_false_iff_ne.mpr c6
            have c6b1 : ((y292.length : Int) != 0) = true := bne_iff_ne.mpr c6
            have c6b2 : ¬ (y292 = []) := fun h_ => c6 (by rw [h_]; rfl)
            obtain ⟨ji7, hji7⟩ : ∃ j_ : Int, (Int.tmod (wrap64 (rd l0 x5_1)) (y292.length : Int)) = j_ := ⟨_, rfl⟩
            replace H : (if 0 ≤ (ji7) then (if (ji7) < (y292.length : Int) then (if x4_1.length + (rdOf ByteArray.empty y292 (ji7)).size < 140737488355328 then (repriseseat_Bytes.l0 k1 l0 y292 (x4_1 ++ bytesOf (rdOf ByteArray.empty y292 (ji7))) (wrap64 (x5_1 + 1))) else (none)) else (none)) else (none)) = some r := by first | (rw [hji7] at H; exact H) | (simp only [hji7] at H ⊢; exact H)
            by_cases c8 : 0 ≤ (ji7)
            · rw [if_pos c8] at H
              have c8b0 : decide (0 ≤ (ji7)) = true := decide_eq_true c8
              clear c8
              by_cases c9 : (ji7) < (y292.length : Int)
              · rw [if_pos c9] at H
                have c9b0 : decide ((ji7) < (y292.length : Int)) = true := decide_eq_true c9
                clear c9
                by_cases c10 : x4_1.length + (rdOf ByteArray.empty y292 (ji7)).size < 140737488355328
                · rw [if_pos c10] at H
                  have LMc10 := Aside0.mk c10
                  clear c10
                  obtain ⟨y297, hy297⟩ : ∃ y_ : List Int, y_ = (x4_1 ++ bytesOf (rdOf ByteArray.empty y292 (ji7))) := ⟨_, rfl⟩
                  replace H : (repriseseat_Bytes.l0 k1 l0 y292 y297 (wrap64 (x5_1 + 1))) = some r := by first | (rw [hy297]; with_reducible exact H) | (have H2_ := (Option.bind_some _ _).symm.trans H; rw [hy297]; with_reducible exact H2_) | (have H2_ := (Option.bind_some _ _).symm.trans H; with_reducible exact H2_) | with_reducible exact H | (rw [hy297]; exact H) | exact H
                  have Ny297 := Aside0.mk hy297
                  clear hy297
                  have H' := Aside0.mk H
                  clear H
                  have p295 : 0 ≤ (x5_1 : Int) := of_decide_eq_true (by first | (with_reducible assumption) | assumption)
                  have q295 : x5_1 < (l0.length : Int) := of_decide_eq_true (by first | (with_reducible assumption) | assumption)
                  obtain ⟨ad295, e295, hx295_0⟩ := Kd.at_int HR0.out x5_1 p295 q295
                  cases e295
                  replace hx295_0 := (HB.out.cell (World.block_lt_of_cell? w _ hx295_0)).trans hx295_0
                  replace p295 := eq_true p295
                  replace q295 := eq_true q295
                  obtain ⟨Ao11, co11, eo11⟩ := Kd.R_slice HO_3.out
                  subst eo11
                  have p296 : 0 ≤ ((ji7) : Int) := of_decide_eq_true (by first | (with_reducible assumption) | assumption)
                  have q296 : (ji7) < (y292.length : Int) := of_decide_eq_true (by first | (with_reducible assumption) | assumption)
                  obtain ⟨ad296, e296, hx296_0⟩ := Kd.at_string (Kd.R_reads' HO_3.out).2.2 (ji7) p296 q296
                  cases e296
                  replace p296 := eq_true p296
                  replace q296 := eq_true q296
                  go_wp2_with (first | (at_builtin; refine Kd.R_append_str (w0 := w) w.heap.size rfl (.tmp 13) _ 22 9 5 rfl Try.underlying22 Try.underlying9 info5 u4 x4_1 (rdOf ByteArray.empty y292 (ji7)) (fun _ => True) rfl rfl ?aO ?aF ?aB ?aS ?aL ?_; (case aB => exact (by repeat (first | (with_reducible first | exact HB.out | apply below_alloc | apply pw_below_drewN | apply below_drew1) | exact HB.out))); (case aF => exact (fun _ _ => trivial)); (case aO => exact (by (with_reducible repeat (first | apply Kd.R_alloc | apply Kd.R_drewN | apply Kd.R_drew)); exact HO_4.out)); (case aS => exact (below_size (by repeat (first | (with_reducible first | exact HB.out | apply below_alloc | apply pw_below_drewN | apply below_drew1) | exact HB.out)))); (case aL => have := LMc10.out; omega); intro v298 w12 ho hb hg hat; rw [← Ny297.out] at ho; have n0_ := Aside0.mk (Kd.R_over' (by (with_reducible repeat (first | apply Kd.R_alloc | apply Kd.R_drewN | apply Kd.R_drew)); exact HO_3.out) (Kd.R_typed (by (with_reducible repeat (first | apply Kd.R_alloc | apply Kd.R_drewN | apply Kd.R_drew)); exact HO_4.out)) (by decide) hg); have n1_ := Aside0.mk (hb); have n2_ := Aside0.mk (ho); clear HO_3; clear HB; clear HO_4; have HO_3 := n0_; have HB := n1_; have HO299 := n2_; clear n0_ n1_ n2_; clear ho hb hg hat))
                  go_roundg k1
                  case measure => have := HK1.out; omega
                  case rel => exact ⟨(y297), (wrap64 (x5_1 + 1)), (by first | rfl | (simp; done) | (simp [*]; done)), H', ⟨by have := HK1.out; omega⟩, ⟨by (with_reducible repeat (first | apply Kd.R_alloc | apply Kd.R_drewN | apply Kd.R_drew)); exact HO_3.out⟩, ⟨by (with_reducible repeat (first | apply Kd.R_alloc | apply Kd.R_drewN | apply Kd.R_drew)); exact HO299.out⟩, ⟨by repeat (first | (with_reducible first | exact HB.out | apply below_alloc | apply pw_below_drewN | apply below_drew1) | exact HB.out)⟩⟩
                · rw [if_neg c10] at H
                  exact absurd H (by simp)
              · rw [if_neg c9] at H
                exact absurd H (by simp)
            · rw [if_neg c8] at H
              exact absurd H (by simp)
        · rw [if_neg c5] at H
          exact absurd H (by simp)
      · rw [if_neg c4] at H
        have c4b0 : decide (x5_1 < (l0.length : Int)) = false := decide_eq_false c4
        clear c4
        obtain rfl := Option.some.inj H
        go_wp2
        go_ret
        exact ⟨_, by first | rfl | (simp [errW_none, errW_some] <;> rfl) | (simp [*, errW_none, errW_some] <;> rfl), by (with_reducible repeat (first | apply Kd.R_alloc | apply Kd.R_drewN | apply Kd.R_drew)); exact HO_4.out, by repeat (first | (with_reducible first | exact HB.out | apply below_alloc | apply pw_below_drewN | apply below_drew1) | exact HB.out)⟩

end Go.Proofs.Ytmaefdeigienjaa.QEventChain
