/- Lean functions for the Go functions that the law reaches, and proofs that each call comes to just what its Lean function tells; no condition. (Written by a program of this session.) -/
import Derived.Test.YtghfclocelhpjaaQLebTellsx0
namespace Go.Proofs.Ytghfclocelhpjaa.QLebTells
open Go.RowKit Go.Proofs.YtghfclocelhpjaaW.PrintWords Go.Proofs.YtghfclocelhpjaaW.PrintLast Go.Proofs.YtghfclocelhpjaaW.PrintMore
attribute [local go_sem] max2_int min2_int max_two min_two max_three min_three max_four min_four   -- for this text's walks alone
set_option linter.unusedVariables false
set_option linter.unusedSimpArgs false

/-! ### leb_Put: function 7 -/
def leb_Put.l0 : Nat → Int → List Int → Option (List Int)
  | 0, _, _ => none
  | k + 1, x0, x3 => if x0 ≥ 128 then (if x3.length < 140737488355328 then (leb_Put.l0 k (x0 / 128) (x3 ++ [Go.bits .or .u8 ((x0) % 256) 128])) else (none)) else (if x3.length < 140737488355328 then (some (x3 ++ [(x0) % 256])) else (none))
def leb_Put.f (k : Nat) (a0 : Int) : Option (List Int) := leb_Put.l0 k a0 ([] : List Int)
theorem leb_Put.mono_l : ∀ k, (∀ y0 y1, LeO (leb_Put.l0 k y0 y1) (leb_Put.l0 (k + 1) y0 y1))
  | 0 => fun _ _ r h => by simp [leb_Put.l0] at h
  | k + 1 => by
    have ih0 := leb_Put.mono_l k
    · intro y0 y1
      unfold leb_Put.l0
      repeat' first
      | (with_reducible exact ih0 _ _)
      | (with_reducible exact LeO.refl _)
      | (with_reducible exact LeO.none _)
      | (with_reducible refine LeO.ite ?_ ?_)
      | (with_reducible refine LeO.bind ?_ (fun _ => ?_))
      | exact ih0 _ _
      | exact LeO.none _
      | refine LeO.ite ?_ ?_
      | refine LeO.bind ?_ (fun _ => ?_)
theorem leb_Put.mono : ∀ a0 k, LeO (leb_Put.f k a0) (leb_Put.f (k + 1) a0) := by
  intro a0 k
  have ih0 := leb_Put.mono_l k
  unfold leb_Put.f
  repeat' first
      | (with_reducible exact ih0 _ _)
      | (with_reducible exact LeO.refl _)
      | (with_reducible exact LeO.none _)
      | (with_reducible refine LeO.ite ?_ ?_)
      | (with_reducible refine LeO.bind ?_ (fun _ => ?_))
      | exact ih0 _ _
      | exact LeO.none _
      | refine LeO.ite ?_ ?_
      | refine LeO.bind ?_ (fun _ => ?_)
set_option maxHeartbeats 8000000 in
set_option maxRecDepth 100000 in
theorem leb_Put.calls (k : Nat) (a0 : Int) (r : List Int) (w : World) (h : leb_Put.f k a0 = some r) :
    Calls Try.prog 7 #[.int .u64 a0] w fun e w' => ∃ v0_ : Value, e = .returned (v0_) ∧ Kd.R (Kd.int .u8) 5 w' w.heap.size (fun _ => True) v0_ r ∧ Below w.heap.size w w' := by
  have HB := Aside0.mk (Below.refl w.heap.size w)
  have H : (leb_Put.l0 k a0 ([] : List Int)) = some r := h
  clear h
  have H' := Aside0.mk H
  clear H
  go_enter Try.func7, Try.ntmps7
  go_wp2
  go_loopg [0, 3] k (fun kq v0 v3 w' => ∃ (x0_1 : Int) (x3_1 : List Int), v0 = .int .u64 x0_1 ∧ Aside0 (leb_Put.l0 kq x0_1 x3_1 = some r) ∧ Aside0 (kq ≤ k) ∧ Aside0 (Kd.R (Kd.int .u8) 5 w' w.heap.size (fun _ => True) v3 x3_1) ∧ Aside0 (Below w.heap.size w w'))
  case atStart => exact ⟨(a0), (([] : List Int)), (by first | rfl | (simp; done) | (simp [*]; done)), H', ⟨Nat.le_refl _⟩, ⟨by first | exact Kd.R_nil _ _ _ _ _ | exact Kd.N_nil _ _ _ _ _ | exact Kd.V_nil _ _ _ _ _ | exact Kd.Q_nil _ _ _ _ _ | exact Kd.S_nil _ _ _ _ _⟩, ⟨by repeat (first | (with_reducible first | exact HB.out | apply below_alloc | apply pw_below_drewN | apply below_drew1) | exact HB.out)⟩⟩
  case round =>
    clear H'
    obtain ⟨x0_1, x3_1, rfl, HA, HK1, HO_3, HB⟩ := hrel
    cases gk with
    | zero => exact absurd HA.out (by simp [leb_Put.l0])
    | succ k1 =>
      have H := HA.out
      clear HA
      simp only [leb_Put.l0] at H
      by_cases c2 : x0_1 ≥ 128
      · rw [if_pos c2] at H
        have c2b0 : decide (128 ≤ x0_1) = true := decide_eq_true c2
        clear c2
        by_cases c3 : x3_1.length < 140737488355328
        · rw [if_pos c3] at H
          have LMc3 := Aside0.mk c3
          clear c3
          obtain ⟨y101, hy101⟩ : ∃ y_ : List Int, y_ = (x3_1 ++ [Go.bits .or .u8 ((x0_1) % 256) 128]) := ⟨_, rfl⟩
          replace H : (leb_Put.l0 k1 (x0_1 / 128) y101) = some r := by first | (rw [hy101]; with_reducible exact H) | (have H2_ := (Option.bind_some _ _).symm.trans H; rw [hy101]; with_reducible exact H2_) | (have H2_ := (Option.bind_some _ _).symm.trans H; with_reducible exact H2_) | with_reducible exact H | (rw [hy101]; exact H) | exact H
          have Ny101 := Aside0.mk hy101
          clear hy101
          have H' := Aside0.mk H
          clear H
          go_wp2_with (first | ((with_reducible refine gate_builtin (b := .append) (xs := #[.tmp 6, .tmp 10]) rfl ?_); at_builtin; refine Kd.R_append (Kd.int .u8) (w0 := w) w.heap.size rfl (.tmp 6) (.tmp 10) 23 5 (.int .u8 0) 1 rfl Try.underlying23 info5 rfl (by decide) (by omega) u3 x3_1 (Go.bits .or .u8 ((x0_1) % 256) 128) [.int .u8 (Go.bits .or .u8 ((x0_1) % 256) 128)] (fun _ => True) (fun _ => False) rfl rfl ?aP (fun _ hk => hk.elim) ?aF ?aO ?aB ?aS ?aL ?_; (case aP => exact rfl); (case aB => exact (by repeat (first | (with_reducible first | exact HB.out | apply below_alloc | apply pw_below_drewN | apply below_drew1) | exact HB.out))); (case aF => exact (fun _ _ => trivial)); (case aO => exact (by (with_reducible repeat (first | apply Kd.R_alloc | apply Kd.R_drewN | apply Kd.R_drew)); exact HO_3.out)); (case aS => exact (below_size (by repeat (first | (with_reducible first | exact HB.out | apply below_alloc | apply pw_below_drewN | apply below_drew1) | exact HB.out)))); (case aL => have := LMc3.out; omega); intro v102 w4 ho hb hg hat; rw [← Ny101.out] at ho; have n0_ := Aside0.mk (hb); have n1_ := Aside0.mk (ho); clear HB; clear HO_3; have HB := n0_; have HO103 := n1_; clear n0_ n1_; clear ho hb hg hat))
          go_roundg k1
          case measure => have := HK1.out; omega
          case rel => exact ⟨(x0_1 / 128), (y101), (by first | rfl | (simp; done) | (simp [*]; done)), H', ⟨by have := HK1.out; omega⟩, ⟨by (with_reducible repeat (first | apply Kd.R_alloc | apply Kd.R_drewN | apply Kd.R_drew)); exact HO103.out⟩, ⟨by repeat (first | (with_reducible first | exact HB.out | apply below_alloc | apply pw_below_drewN | apply below_drew1) | exact HB.out)⟩⟩
        · rw [if_neg c3] at H
          exact absurd H (by simp)
      · rw [if_neg c2] at H
        have c2b0 : decide (128 ≤ x0_1) = false := decide_eq_false c2
        clear c2
        by_cases c5 : x3_1.length < 140737488355328
        · rw [if_pos c5] at H
          have LMc5 := Aside0.mk c5
          clear c5
          obtain ⟨y104, hy104⟩ : ∃ y_ : List Int, y_ = (x3_1 ++ [(x0_1) % 256]) := ⟨_, rfl⟩
          replace H : (some y104) = some r := by first | (rw [hy104]; with_reducible exact H) | (have H2_ := (Option.bind_some _ _).symm.trans H; rw [hy104]; with_reducible exact H2_) | (have H2_ := (Option.bind_some _ _).symm.trans H; with_reducible exact H2_) | with_reducible exact H | (rw [hy104]; exact H) | exact H
          have Ny104 := Aside0.mk hy104
          clear hy104
          obtain rfl := Option.some.inj H
          go_wp2_with (first | ((with_reducible refine gate_builtin (b := .append) (xs := #[.tmp 14, .tmp 17]) rfl ?_); at_builtin; refine Kd.R_append (Kd.int .u8) (w0 := w) w.heap.size rfl (.tmp 14) (.tmp 17) 23 5 (.int .u8 0) 1 rfl Try.underlying23 info5 rfl (by decide) (by omega) u3 x3_1 ((x0_1) % 256) [.int .u8 ((x0_1) % 256)] (fun _ => True) (fun _ => False) rfl rfl ?aP (fun _ hk => hk.elim) ?aF ?aO ?aB ?aS ?aL ?_; (case aP => exact rfl); (case aB => exact (by repeat (first | (with_reducible first | exact HB.out | apply below_alloc | apply pw_below_drewN | apply below_drew1) | exact HB.out))); (case aF => exact (fun _ _ => trivial)); (case aO => exact (by (with_reducible repeat (first | apply Kd.R_alloc | apply Kd.R_drewN | apply Kd.R_drew)); exact HO_3.out)); (case aS => exact (below_size (by repeat (first | (with_reducible first | exact HB.out | apply below_alloc | apply pw_below_drewN | apply below_drew1) | exact HB.out)))); (case aL => have := LMc5.out; omega); intro v105 w6 ho hb hg hat; rw [← Ny104.out] at ho; have n0_ := Aside0.mk (hb); have n1_ := Aside0.mk (ho); clear HB; clear HO_3; have HB := n0_; have HO106 := n1_; clear n0_ n1_; clear ho hb hg hat))
          go_ret
          exact ⟨_, by first | rfl | (simp [errW_none, errW_some] <;> rfl) | (simp [*, errW_none, errW_some] <;> rfl), by (with_reducible repeat (first | apply Kd.R_alloc | apply Kd.R_drewN | apply Kd.R_drew)); exact HO106.out, by repeat (first | (with_reducible first | exact HB.out | apply below_alloc | apply pw_below_drewN | apply below_drew1) | exact HB.out)⟩
        · rw [if_neg c5] at H
          exact absurd H (by simp)

/-! ### leb_Zag: function 8 -/
def leb_Zag.f (a0 : Int) : Option (Int) := some (Go.bits .xor .i64 (wrap64 (a0 / 2)) (wrap64 (-(wrap64 (Go.bits .and .u64 a0 1)))))
set_option maxHeartbeats 8000000 in
set_option maxRecDepth 100000 in
theorem leb_Zag.calls (a0 : Int) (r : Int) (w : World) (h : leb_Zag.f a0 = some r) :
    Calls Try.prog 8 #[.int .u64 a0] w fun e w' => e = .returned (.int .i64 r) ∧ Drawn0 w w' := by
  have H : (some (Go.bits .xor .i64 (wrap64 (a0 / 2)) (wrap64 (-(wrap64 (Go.bits .and .u64 a0 1)))))) = some r := h
  clear h
  obtain rfl := Option.some.inj H
  go_enter Try.func8, Try.ntmps8
  go_wp2
  go_ret
  exact ⟨by first | rfl | (simp; done) | (simp [*]; done), by repeat (first | exact Drawn0.refl _ | apply Drawn0.step)⟩

/-! ### leb_Zig: function 10 -/
def leb_Zig.f (a0 : Int) : Option (Int) := some (Go.bits .xor .u64 (IntKind.u64.wrap ((IntKind.u64.wrap (a0)) * 2)) (IntKind.u64.wrap (a0 / 9223372036854775808)))
set_option maxHeartbeats 8000000 in
set_option maxRecDepth 100000 in
theorem leb_Zig.calls (a0 : Int) (r : Int) (w : World) (h : leb_Zig.f a0 = some r) :
    Calls Try.prog 10 #[.int .i64 a0] w fun e w' => e = .returned (.int .u64 r) ∧ Drawn0 w w' := by
  have H : (some (Go.bits .xor .u64 (IntKind.u64.wrap ((IntKind.u64.wrap (a0)) * 2)) (IntKind.u64.wrap (a0 / 9223372036854775808)))) = some r := h
  clear h
  obtain rfl := Option.some.inj H
  go_enter Try.func10, Try.ntmps10
  go_wp2
  go_ret
  exact ⟨by first | rfl | (simp; done) | (simp [*]; done), by repeat (first | exact Drawn0.refl _ | apply Drawn0.step)⟩

/-! ### leb_Read: function 12 -/
mutual
def leb_Read.l0 : Nat → List Int → Int → Int → Option (Int × Int × Int)
  | 0, _, _, _ => none
  | k + 1, x0, x5, x8 => if x8 < 10 then (if x8 = (x0.length : Int) then (some (0, 0, 22)) else (if 0 ≤ x8 then (if x8 < (x0.length : Int) then (if x8 = 9 then (leb_Read.j1 k x0 x5 x8 (rd x0 x8) x8 (decide ((rd x0 x8) > 1))) else (leb_Read.j1 k x0 x5 x8 (rd x0 x8) x8 false)) else (none)) else (none))) else (some (0, 0, 21))
def leb_Read.j1 : Nat → List Int → Int → Int → Int → Int → Bool → Option (Int × Int × Int)
  | 0, _, _, _, _, _, _ => none
  | k + 1, x0, x5, x6, x7, x8, x24 => if x24 = true then (some (0, 0, 21)) else (if 0 ≤ (wrap64 (7 * x6)) then (if x7 < 128 then (if x6 > 0 then (if x7 = 0 then (some (0, 0, 21)) else (some (Go.bits .or .u64 x5 (shl .u64 (IntKind.u64.wrap (Go.bits .andNot .u8 x7 128)) (wrap64 (7 * x6))), wrap64 (x6 + 1), 0))) else (some (Go.bits .or .u64 x5 (shl .u64 (IntKind.u64.wrap (Go.bits .andNot .u8 x7 128)) (wrap64 (7 * x6))), wrap64 (x6 + 1), 0))) else (leb_Read.l0 k x0 (Go.bits .or .u64 x5 (shl .u64 (IntKind.u64.wrap (Go.bits .andNot .u8 x7 128)) (wrap64 (7 * x6)))) (wrap64 (x8 + 1)))) else (none))
end
def leb_Read.f (k : Nat) (l0 : List Int) : Option (Int × Int × Int) := leb_Read.l0 k l0 0 0
theorem leb_Read.mono_l : ∀ k, (∀ y0 y1 y2, LeO (leb_Read.l0 k y0 y1 y2) (leb_Read.l0 (k + 1) y0 y1 y2)) ∧ (∀ y0 y1 y2 y3 y4 y5, LeO (leb_Read.j1 k y0 y1 y2 y3 y4 y5) (leb_Read.j1 (k + 1) y0 y1 y2 y3 y4 y5))
  | 0 => ⟨fun _ _ _ r h => by simp [leb_Read.l0] at h, fun _ _ _ _ _ _ r h => by simp [leb_Read.j1] at h⟩
  | k + 1 => by
    obtain ⟨ih0, ih1⟩ := leb_Read.mono_l k
    refine ⟨?_, ?_⟩
    · intro y0 y1 y2
      unfold leb_Read.l0
      repeat' first
      | (with_reducible exact ih0 _ _ _)
      | (with_reducible exact ih1 _ _ _ _ _ _)
      | (with_reducible exact LeO.refl _)
      | (with_reducible exact LeO.none _)
      | (with_reducible refine LeO.ite ?_ ?_)
      | (with_reducible refine LeO.bind ?_ (fun _ => ?_))
      | exact ih0 _ _ _
      | exact ih1 _ _ _ _ _ _
      | exact LeO.none _
      | refine LeO.ite ?_ ?_
      | refine LeO.bind ?_ (fun _ => ?_)
    · intro y0 y1 y2 y3 y4 y5
      unfold leb_Read.j1
      repeat' first
      | (with_reducible exact ih0 _ _ _)
      | (with_reducible exact ih1 _ _ _ _ _ _)
      | (with_reducible exact LeO.refl _)
      | (with_reducible exact LeO.none _)
      | (with_reducible refine LeO.ite ?_ ?_)
      | (with_reducible refine LeO.bind ?_ (fun _ => ?_))
      | exact ih0 _ _ _
      | exact ih1 _ _ _ _ _ _
      | exact LeO.none _
      | refine LeO.ite ?_ ?_
      | refine LeO.bind ?_ (fun _ => ?_)
theorem leb_Read.mono : ∀ a0 k, LeO (leb_Read.f k a0) (leb_Read.f (k + 1) a0) := by
  intro a0 k
  obtain ⟨ih0, ih1⟩ := leb_Read.mono_l k
  unfold leb_Read.f
  repeat' first
      | (with_reducible exact ih0 _ _ _)
      | (with_reducible exact ih1 _ _ _ _ _ _)
      | (with_reducible exact LeO.refl _)
      | (with_reducible exact LeO.none _)
      | (with_reducible refine LeO.ite ?_ ?_)
      | (with_reducible refine LeO.bind ?_ (fun _ => ?_))
      | exact ih0 _ _ _
      | exact ih1 _ _ _ _ _ _
      | exact LeO.none _
      | refine LeO.ite ?_ ?_
      | refine LeO.bind ?_ (fun _ => ?_)
set_option maxHeartbeats 8000000 in
set_option maxRecDepth 100000 in
theorem leb_Read.calls (k : Nat) (A0 : Option Addr) (c0 : Nat) (l0 : List Int) (r1 : Int) (r2 : Int) (r3 : Int) (w : World) (hr0 : Kd.C (Kd.int .u8) w A0 l0.length l0) (hc0 : l0.length ≤ c0) (h : leb_Read.f k l0 = some (r1, r2, r3)) :
    Calls Try.prog 12 #[.slice A0 l0.length c0] w fun e w' => e = .returned (.tuple #[.int .u64 r1, .int .i64 r2, .int .i64 r3]) ∧ Drawn0 w w' := by
  have HR0 := Aside0.mk hr0
  have HC0 := Aside0.mk hc0
  clear hr0 hc0
  have H : (leb_Read.l0 k l0 0 0) = some (r1, r2, r3) := h
  clear h
  have H' := Aside0.mk H
  clear H
  go_enter Try.func12, Try.ntmps12
  go_wp2
  go_loopg [5, 8] k (fun kq v5 v8 w' => ∃ (x5_1 : Int) (x8_1 : Int), v5 = .int .u64 x5_1 ∧ v8 = .int .i64 x8_1 ∧ Aside0 (leb_Read.l0 kq l0 x5_1 x8_1 = some (r1, r2, r3)) ∧ Aside0 (kq ≤ k) ∧ Drawn0 w w')
  case atStart => exact ⟨(0), (0), (by first | rfl | (simp; done) | (simp [*]; done)), (by first | rfl | (simp; done) | (simp [*]; done)), H', ⟨Nat.le_refl _⟩, by repeat (first | exact Drawn0.refl _ | apply Drawn0.step)⟩
  case round =>
    clear H'
    try clear c1
    obtain ⟨x5_1, x8_1, rfl, rfl, HA, HK1, ⟨m1, rfl⟩⟩ := hrel
    cases gk with
    | zero => exact absurd HA.out (by simp [leb_Read.l0])
    | succ k1 =>
      have H := HA.out
      clear HA
      simp only [leb_Read.l0] at H
      by_cases c2 : x8_1 < 10
      · rw [if_pos c2] at H
        have c2b0 : decide (x8_1 < 10) = true := decide_eq_true c2
        clear c2
        by_cases c3 : x8_1 = (l0.length : Int)
        · rw [if_pos c3] at H
          have c3b0 : (x8_1 == (l0.length : Int)) = true := beq_iff_eq.mpr c3
          have c3b1 : (x8_1 != (l0.length : Int)) = false := bne_eq_false_iff_eq.mpr c3
          clear c3
          simp only [Option.some.injEq, Prod.mk.injEq] at H
          obtain ⟨rfl, rfl, rfl⟩ := H
          go_wp2
          go_ret3
          exact ⟨by first | rfl | (simp; done) | (simp [*]; done), by repeat (first | exact Drawn0.refl _ | apply Drawn0.step)⟩
        · rw [if_neg c3] at H
          have c3b0 : (x8_1 == (l0.length : Int)) = false := beq_eq_false_iff_ne.mpr c3
          have c3b1 : (x8_1 != (l0.length : Int)) = true := bne_iff_ne.mpr c3
          by_cases c4 : 0 ≤ x8_1
          · rw [if_pos c4] at H
            have c4b0 : decide (0 ≤ x8_1) = true := decide_eq_true c4
            clear c4
            by_cases c5 : x8_1 < (l0.length : Int)
            · rw [if_pos c5] at H
              have c5b0 : decide (x8_1 < (l0.length : Int)) = true := decide_eq_true c5
              clear c5
              have HC6 := Aside0.mk H
              clear H
              have p107 : 0 ≤ (x8_1 : Int) := of_decide_eq_true (by first | (with_reducible assumption) | assumption)
              have q107 : x8_1 < (l0.length : Int) := of_decide_eq_true (by first | (with_reducible assumption) | assumption)
              obtain ⟨ad107, e107, hx107_0⟩ := Kd.at_int HR0.out x8_1 p107 q107
              cases e107
              replace p107 := eq_true p107
              replace q107 := eq_true q107
              go_upto_region 8 with (fail)
              go_cut [24] (fun v24 wc => ∃ (kq : Nat) (x24_5 : Bool), v24 = .bool x24_5 ∧ Aside0 (leb_Read.j1 kq l0 x5_1 x8_1 (rd l0 x8_1) x8_1 x24_5 = some (r1, r2, r3)) ∧ Aside0 (kq ≤ k1) ∧ Drawn0 w wc)
              case first =>
                have H := HC6.out
                clear HC6
                by_cases c7 : x8_1 = 9
                · rw [if_pos c7] at H
                  have c7b0 : (x8_1 == 9) = true := beq_iff_eq.mpr c7
                  have c7b1 : (x8_1 != 9) = false := bne_eq_false_iff_eq.mpr c7
                  clear c7
                  (first | rw [c7b0] | (simp only [i64_w, i32_w]; rw [c7b0]) | skip)
                  have H' := Aside0.mk H
                  clear H
                  go_wp2
                  go_meet
                  case rel => exact ⟨_, (decide ((rd l0 x8_1) > 1)), (by first | rfl | (simp; done) | (simp [*]; done)), H', ⟨by have := HK1.out; first | omega | exact Nat.le_refl _⟩, by repeat (first | exact Drawn0.refl _ | apply Drawn0.step)⟩
                · rw [if_neg c7] at H
                  have c7b0 : (x8_1 == 9) = false := beq_eq_false_iff_ne.mpr c7
                  have c7b1 : (x8_1 != 9) = true := bne_iff_ne.mpr c7
                  (first | rw [c7b0] | (simp only [i64_w, i32_w]; rw [c7b0]) | skip)
                  have H' := Aside0.mk H
                  clear H
                  go_wp2
                  go_meet
                  case rel => exact ⟨_, (false), (by first | rfl | (simp; done) | (simp [*]; done)), H', ⟨by have := HK1.out; first | omega | exact Nat.le_refl _⟩, by repeat (first | exact Drawn0.refl _ | apply Drawn0.step)⟩
              case rest =>
                clear HC6
                try clear c1
                try clear p1
                try clear q1
                try clear hx1
                try clear c2
                try clear c2b0
                try clear p2
                try clear c3
                try clear c3b0
                try clear c3b1
                try clear c4
                try clear c4b0
                try clear c5
                try clear c5b0
                try clear c7
                try clear c7b0
                try clear c7b1
                try clear hx107_0
                try clear p107
                try clear q107
                obtain ⟨kq, x24_5, rfl, HA, HJ5, ⟨mc5, rfl⟩⟩ := hcut
                cases kq with
                | zero => exact absurd HA.out (by simp [leb_Read.j1])
                | succ kj5 =>
                  have H := HA.out
                  clear HA
                  simp only [leb_Read.j1] at H
                  by_cases c8 : x24_5 = true
                  · subst c8
                    have H1 : (some (0, 0, 21)) = some (r1, r2, r3) := by rw [if_pos rfl] at H; exact H
                    clear H
                    have H := H1
                    clear H1
                    simp only [Option.some.injEq, Prod.mk.injEq] at H
                    obtain ⟨rfl, rfl, rfl⟩ := H
                    go_wp2
                    go_ret3
                    exact ⟨by first | rfl | (simp; done) | (simp [*]; done), by repeat (first | exact Drawn0.refl _ | apply Drawn0.step)⟩
                  · replace c8 := Bool.eq_false_iff.mpr c8
                    subst c8
                    have H1 : (if 0 ≤ (wrap64 (7 * x8_1)) then (if (rd l0 x8_1) < 128 then (if x8_1 > 0 then (if (rd l0 x8_1) = 0 then (some (0, 0, 21)) else (some (Go.bits .or .u64 x5_1 (shl .u64 (IntKind.u64.wrap (Go.bits .andNot .u8 (rd l0 x8_1) 128)) (wrap64 (7 * x8_1))), wrap64 (x8_1 + 1), 0))) else (some (Go.bits .or .u64 x5_1 (shl .u64 (IntKind.u64.wrap (Go.bits .andNot .u8 (rd l0 x8_1) 128)) (wrap64 (7 * x8_1))), wrap64 (x8_1 + 1), 0))) else (leb_Read.l0 kj5 l0 (Go.bits .or .u64 x5_1 (shl .u64 (IntKind.u64.wrap (Go.bits .andNot .u8 (rd l0 x8_1) 128)) (wrap64 (7 * x8_1)))) (wrap64 (x8_1 + 1)))) else (none)) = some (r1, r2, r3) := by rw [if_neg (show ¬ (false = true) by decide)] at H; exact H
                    clear H
                    have H := H1
                    clear H1
                    obtain ⟨ji9, hji9⟩ : ∃ j_ : Int, (wrap64 (7 * x8_1)) = j_ := ⟨_, rfl⟩
                    replace H : (if 0 ≤ (ji9) then (if (rd l0 x8_1) < 128 then (if x8_1 > 0 then (if (rd l0 x8_1) = 0 then (some (0, 0, 21)) else (some (Go.bits .or .u64 x5_1 (shl .u64 (IntKind.u64.wrap (Go.bits .andNot .u8 (rd l0 x8_1) 128)) (ji9)), wrap64 (x8_1 + 1), 0))) else (some (Go.bits .or .u64 x5_1 (shl .u64 (IntKind.u64.wrap (Go.bits .andNot .u8 (rd l0 x8_1) 128)) (ji9)), wrap64 (x8_1 + 1), 0))) else (leb_Read.l0 kj5 l0 (Go.bits .or .u64 x5_1 (shl .u64 (IntKind.u64.wrap (Go.bits .andNot .u8 (rd l0 x8_1) 128)) (ji9))) (wrap64 (x8_1 + 1)))) else (none)) = some (r1, r2, r3) := by first | (rw [hji9] at H; exact H) | (simp only [hji9] at H ⊢; exact H)
                    have hji9w : (IntKind.i64.wrap (7 * x8_1)) = ji9 := (i64_w _).trans hji9
                    by_cases c10 : 0 ≤ (ji9)
                    · rw [if_pos c10] at H
                      have c10b0 := eq_true c10
                      have c10b1 : decide (0 ≤ (ji9)) = true := decide_eq_true c10
                      clear c10
                      obtain ⟨ji11, hji11⟩ : ∃ j_ : Int, (shl .u64 (IntKind.u64.wrap (Go.bits .andNot .u8 (rd l0 x8_1) 128)) (ji9)) = j_ := ⟨_, rfl⟩
                      replace H : (if (rd l0 x8_1) < 128 then (if x8_1 > 0 then (if (rd l0 x8_1) = 0 then (some (0, 0, 21)) else (some (Go.bits .or .u64 x5_1 (ji11), wrap64 (x8_1 + 1), 0))) else (some (Go.bits .or .u64 x5_1 (ji11), wrap64 (x8_1 + 1), 0))) else (leb_Read.l0 kj5 l0 (Go.bits .or .u64 x5_1 (ji11)) (wrap64 (x8_1 + 1)))) = some (r1, r2, r3) := by first | (rw [hji11] at H; exact H) | (simp only [hji11] at H ⊢; exact H)
                      have hji11_ : (IntKind.u64.wrap ((IntKind.u64.wrap (Go.bits .andNot .u8 (rd l0 x8_1) 128)) * 2 ^ min (ji9).toNat 64)) = ji11 := hji11
                      have hji11z : (ji9) ≤ 64 → (IntKind.u64.wrap ((IntKind.u64.wrap (Go.bits .andNot .u8 (rd l0 x8_1) 128)) * 2 ^ (ji9).toNat)) = ji11 := shl_small hji11
                      by_cases c12 : (rd l0 x8_1) < 128
                      · rw [if_pos c12] at H
                        have c12b0 : decide ((rd l0 x8_1) < 128) = true := decide_eq_true c12
                        clear c12
                        by_cases c13 : x8_1 > 0
                        · rw [if_pos c13] at H
                          have c13b0 : decide (0 < x8_1) = true := decide_eq_true c13
                          clear c13
                          by_cases c14 : (rd l0 x8_1) = 0
                          · rw [if_pos c14] at H
                            have c14b0 : ((rd l0 x8_1) == 0) = true := beq_iff_eq.mpr c14
                            have c14b1 : ((rd l0 x8_1) != 0) = false := bne_eq_false_iff_eq.mpr c14
                            clear c14
                            simp only [Option.some.injEq, Prod.mk.injEq] at H
                            obtain ⟨rfl, rfl, rfl⟩ := H
                            go_wp2
                            go_ret3
                            exact ⟨by first | rfl | (simp; done) | (simp only [← hji9, ← hji11] <;> (first | rfl | simp)) | (simp [*]; done), by repeat (first | exact Drawn0.refl _ | apply Drawn0.step)⟩
                          · rw [if_neg c14] at H
                            have c14b0 : ((rd l0 x8_1) == 0) = false := beq_eq_false_iff_ne.mpr c14
                            have c14b1 : ((rd l0 x8_1) != 0) = true := bne_iff_ne.mpr c14
                            simp only [Option.some.injEq, Prod.mk.injEq] at H
                            obtain ⟨rfl, rfl, rfl⟩ := H
                            go_wp2
                            go_ret3
                            exact ⟨by first | rfl | (simp; done) | (simp only [← hji9, ← hji11] <;> (first | rfl | simp)) | (simp [*]; done), by repeat (first | exact Drawn0.refl _ | apply Drawn0.step)⟩
                        · rw [if_neg c13] at H
                          have c13b0 : decide (0 < x8_1) = false := decide_eq_false c13
                          clear c13
                          simp only [Option.some.injEq, Prod.mk.injEq] at H
                          obtain ⟨rfl, rfl, rfl⟩ := H
                          go_wp2
                          go_ret3
                          exact ⟨by first | rfl | (simp; done) | (simp only [← hji9, ← hji11] <;> (first | rfl | simp)) | (simp [*]; done), by repeat (first | exact Drawn0.refl _ | apply Drawn0.step)⟩
                      · rw [if_neg c12] at H
                        have c12b0 : decide ((rd l0 x8_1) < 128) = false := decide_eq_false c12
                        clear c12
                        have H' := Aside0.mk H
                        clear H
                        go_wp2
                        go_roundg kj5
                        case measure => have := HK1.out; have := HJ5.out; omega
                        case rel => exact ⟨(Go.bits .or .u64 x5_1 (ji11)), (wrap64 (x8_1 + 1)), (by first | rfl | (simp; done) | (simp only [← hji11] <;> (first | rfl | simp)) | (simp [*]; done)), (by first | rfl | (simp; done) | (simp [*]; done)), H', ⟨by have := HK1.out; have := HJ5.out; omega⟩, by repeat (first | exact Drawn0.refl _ | apply Drawn0.step)⟩
                    · rw [if_neg c10] at H
                      exact absurd H (by simp)
            · rw [if_neg c5] at H
              exact absurd H (by simp)
          · rw [if_neg c4] at H
            exact absurd H (by simp)
      · rw [if_neg c2] at H
        have c2b0 : decide (x8_1 < 10) = false := decide_eq_false c2
        clear c2
        simp only [Option.some.injEq, Prod.mk.injEq] at H
        obtain ⟨rfl, rfl, rfl⟩ := H
        go_wp2
        go_ret3
        exact ⟨by first | rfl | (simp; done) | (simp [*]; done), by repeat (first | exact Drawn0.refl _ | apply Drawn0.step)⟩

/-! ### slices_Clone_byte_byte: function 18 -/
def slices_Clone_byte_byte.f (l0 : List Int) : Option (List Int) := (some (([] : List Int) : List Int)).bind fun y108 => (if y108.length + l0.length < 140737488355328 then (some (y108 ++ l0)) else (none))
set_option maxHeartbeats 8000000 in
set_option maxRecDepth 100000 in
theorem slices_Clone_byte_byte.calls (A0 : Option Addr) (c0 : Nat) (l0 : List Int) (r : List Int) (w : World) (hr0 : Kd.C (Kd.int .u8) w A0 l0.length l0) (hc0 : l0.length ≤ c0) (h : slices_Clone_byte_byte.f l0 = some r) :
    Calls Try.prog 18 #[.slice A0 l0.length c0] w fun e w' => ∃ v0_ : Value, e = .returned (v0_) ∧ Kd.R (Kd.int .u8) 5 w' w.heap.size (fun _ => True) v0_ r ∧ Below w.heap.size w w' := by
  cases A0 with
  | none =>
    have hl : l0 = [] := by
      rcases l0 with _ | ⟨x, l⟩
      · rfl
      · obtain ⟨ad, h0, _⟩ := hr0.2.2 (by simp); cases h0
    subst hl
    obtain rfl : r = [] := by simpa [slices_Clone_byte_byte.f] using h.symm
    clear h hr0 hc0
    have hnil := fun (w : World) => run_eql_slice_nil (P := Try.prog) w 23 5 none 0 c0 Try.underlying23
    go_enter Try.func18, Try.ntmps18
    go_wp2
    go_ret
    exact ⟨_, rfl, Kd.R_nil _ _ _ _ _, Below.refl _ _⟩
  | some ad0 =>
    have HR0 := Aside0.mk hr0
    have HC0 := Aside0.mk hc0
    clear hr0 hc0
    have HB := Aside0.mk (Below.refl w.heap.size w)
    have H : ((some (([] : List Int) : List Int)).bind fun y108 => (if y108.length + l0.length < 140737488355328 then (some (y108 ++ l0)) else (none))) = some r := h
    clear h
    obtain ⟨y108, hy108⟩ : ∃ y_ : List Int, y_ = (([] : List Int)) := ⟨_, rfl⟩
    replace H : (if y108.length + l0.length < 140737488355328 then (some (y108 ++ l0)) else (none)) = some r := by first | (rw [hy108]; with_reducible exact H) | (have H2_ := (Option.bind_some _ _).symm.trans H; rw [hy108]; with_reducible exact H2_) | (have H2_ := (Option.bind_some _ _).symm.trans H; with_reducible exact H2_) | with_reducible exact H | (rw [hy108]; exact H) | exact H
    have Ny108 := Aside0.mk hy108
    clear hy108
    by_cases c2 : y108.length + l0.length < 140737488355328
    · rw [if_pos c2] at H
      have LMc2 := Aside0.mk c2
      clear c2
      obtain ⟨y111, hy111⟩ : ∃ y_ : List Int, y_ = (y108 ++ l0) := ⟨_, rfl⟩
      replace H : (some y111) = some r := by first | (rw [hy111]; with_reducible exact H) | (have H2_ := (Option.bind_some _ _).symm.trans H; rw [hy111]; with_reducible exact H2_) | (have H2_ := (Option.bind_some _ _).symm.trans H; with_reducible exact H2_) | with_reducible exact H | (rw [hy111]; exact H) | exact H
      have Ny111 := Aside0.mk hy111
      clear hy111
      obtain rfl := Option.some.inj H
      have hnil := fun (w : World) => run_eql_slice_nil (P := Try.prog) w 23 5 (some ad0) l0.length c0 Try.underlying23
      go_enter Try.func18, Try.ntmps18
      go_wp2_with (first | ((with_reducible refine gate_dst (N := 5) rfl ?_); refine Kd.R_lit (Kd.int .u8) _ 5 ?hg (N := 5) ?hd (xs := ([] : List Int)) (inner := []) (ok := fun _ => True) (okp := fun _ => True) ?hr ?hp (fun _ hk => hk) trivial (Below.refl _ _) (Nat.le_refl _) (by simp) ?_; (case hd => rfl); (case hg => rfl); (case hr => first | (go_simp; done) | (go_simp; rfl)); (case hp => exact (Reps.none _ _)); intro v109 w3 ho4 hb hg_ hnew_; clear hg_ hnew_; (first | rw [← Ny108.out] at ho4 | (simp only [Int.reduceToNat] at ho4; rw [← Ny108.out] at ho4)); have n0_ := Aside0.mk (Kd.R_lower ho4 (below_size (by repeat (first | (with_reducible first | exact HB.out | apply below_alloc | apply pw_below_drewN | apply below_drew1) | exact HB.out)))); have n1_ := Aside0.mk (below_step (by repeat (first | (with_reducible first | exact HB.out | apply below_alloc | apply pw_below_drewN | apply below_drew1) | exact HB.out)) hb); clear HB; have HO110 := n0_; have HB := n1_; clear n0_ n1_; clear hb ho4) | ((with_reducible refine gate_builtin (b := .append) (xs := #[.tmp 5, .tmp 6]) rfl ?_); at_builtin; refine Kd.R_append_rows (Kd.int .u8) (w0 := w) w.heap.size rfl (.tmp 5) (.tmp 6) 23 5 (.int .u8 0) 1 rfl Try.underlying23 info5 rfl (by decide) (by omega) v109 y108 l0 _ _ _ (fun _ => True) (fun _ => False) rfl rfl ?aO ?aR (fun _ _ h => h) (fun _ h => h.elim) ?aF ?aB ?aS ?aL ?_; (case aR => repeat (first | exact (Kd.C_below HR0.out HB.out) | (with_reducible refine Kd.C_alloc ?_ _) | (with_reducible refine Kd.C_drewN ?_ _) | (with_reducible refine Kd.C_drew ?_))); (case aB => exact (by repeat (first | (with_reducible first | exact HB.out | apply below_alloc | apply pw_below_drewN | apply below_drew1) | exact HB.out))); (case aF => exact (fun _ _ => trivial)); (case aO => exact (by (with_reducible repeat (first | apply Kd.R_alloc | apply Kd.R_drewN | apply Kd.R_drew)); exact HO110.out)); (case aS => exact (below_size (by repeat (first | (with_reducible first | exact HB.out | apply below_alloc | apply pw_below_drewN | apply below_drew1) | exact HB.out)))); (case aL => have := LMc2.out; omega); intro v112 w5 ho hb hg hat; rw [← Ny111.out] at ho; have n0_ := Aside0.mk (hb); have n1_ := Aside0.mk (ho); clear HB; clear HO110; have HB := n0_; have HO113 := n1_; clear n0_ n1_; clear ho hb hg hat))
      go_ret
      exact ⟨_, by first | rfl | (simp [errW_none, errW_some] <;> rfl) | (simp [*, errW_none, errW_some] <;> rfl), by (with_reducible repeat (first | apply Kd.R_alloc | apply Kd.R_drewN | apply Kd.R_drew)); exact HO113.out, by repeat (first | (with_reducible first | exact HB.out | apply below_alloc | apply pw_below_drewN | apply below_drew1) | exact HB.out)⟩
    · rw [if_neg c2] at H
      exact absurd H (by simp)

/-! ### leb_ReadBytes: function 14 -/
def leb_ReadBytes.f (k : Nat) (l0 : List Int) (a1 : Int) : Option (List Int × Int × Int) := (leb_Read.f k l0).bind fun bt114 => (if bt114.2.2 = 0 then (if bt114.1 > (IntKind.u64.wrap (mx a1 0)) then (some (([] : List Int), 0, 25)) else (if bt114.1 > (IntKind.u64.wrap (wrap64 ((l0.length : Int) - bt114.2.1))) then (some (([] : List Int), 0, 22)) else (if 0 ≤ bt114.2.1 then (if bt114.2.1 ≤ (wrap64 (bt114.2.1 + (wrap64 (bt114.1)))) then (if (wrap64 (bt114.2.1 + (wrap64 (bt114.1)))) ≤ (l0.length : Int) then ((slices_Clone_byte_byte.f ((l0.take ((wrap64 (bt114.2.1 + (wrap64 (bt114.1)))) : Int).toNat).drop (bt114.2.1 : Int).toNat)).bind fun t118 => (some (t118, wrap64 (bt114.2.1 + (wrap64 (bt114.1))), 0))) else (none)) else (none)) else (none)))) else (some (([] : List Int), 0, bt114.2.2)))
theorem leb_ReadBytes.mono : ∀ a0 a1 k, LeO (leb_ReadBytes.f k a0 a1) (leb_ReadBytes.f (k + 1) a0 a1) := by
  intro a0 a1 k
  unfold leb_ReadBytes.f
  repeat' first
      | (with_reducible exact leb_Read.mono _ _)
      | (with_reducible exact LeO.refl _)
      | (with_reducible exact LeO.none _)
      | (with_reducible refine LeO.ite ?_ ?_)
      | (with_reducible refine LeO.bind ?_ (fun _ => ?_))
      | exact leb_Read.mono _ _
      | exact LeO.none _
      | refine LeO.ite ?_ ?_
      | refine LeO.bind ?_ (fun _ => ?_)
set_option maxHeartbeats 8000000 in
set_option maxRecDepth 100000 in
theorem leb_ReadBytes.calls (k : Nat) (A0 : Option Addr) (c0 : Nat) (l0 : List Int) (a1 : Int) (r1 : List Int) (r2 : Int) (r3 : Int) (w : World) (hr0 : Kd.C (Kd.int .u8) w A0 l0.length l0) (hc0 : l0.length ≤ c0) (h : leb_ReadBytes.f k l0 a1 = some (r1, r2, r3)) :
    Calls Try.prog 14 #[.slice A0 l0.length c0, .int .i64 a1] w fun e w' => ∃ v0_ : Value, e = .returned (.tuple #[v0_, .int .i64 r2, .int .i64 r3]) ∧ Kd.R (Kd.int .u8) 5 w' w.heap.size (fun _ => True) v0_ r1 ∧ Below w.heap.size w w' := by
  have HR0 := Aside0.mk hr0
  have HC0 := Aside0.mk hc0
  clear hr0 hc0
  have HB := Aside0.mk (Below.refl w.heap.size w)
  have H : ((leb_Read.f k l0).bind fun bt114 => (if bt114.2.2 = 0 then (if bt114.1 > (IntKind.u64.wrap (mx a1 0)) then (some (([] : List Int), 0, 25)) else (if bt114.1 > (IntKind.u64.wrap (wrap64 ((l0.length : Int) - bt114.2.1))) then (some (([] : List Int), 0, 22)) else (if 0 ≤ bt114.2.1 then (if bt114.2.1 ≤ (wrap64 (bt114.2.1 + (wrap64 (bt114.1)))) then (if (wrap64 (bt114.2.1 + (wrap64 (bt114.1)))) ≤ (l0.length : Int) then ((slices_Clone_byte_byte.f ((l0.take ((wrap64 (bt114.2.1 + (wrap64 (bt114.1)))) : Int).toNat).drop (bt114.2.1 : Int).toNat)).bind fun t118 => (some (t118, wrap64 (bt114.2.1 + (wrap64 (bt114.1))), 0))) else (none)) else (none)) else (none)))) else (some (([] : List Int), 0, bt114.2.2)))) = some (r1, r2, r3) := h
  clear h
  replace H := Option.bind_eq_some_iff.mp H
  obtain ⟨⟨t114, t115, t116⟩, A30, H⟩ := H
  replace H : (if t116 = 0 then (if t114 > (IntKind.u64.wrap (mx a1 0)) then (some (([] : List Int), 0, 25)) else (if t114 > (IntKind.u64.wrap (wrap64 ((l0.length : Int) - t115))) then (some (([] : List Int), 0, 22)) else (if 0 ≤ t115 then (if t115 ≤ (wrap64 (t115 + (wrap64 (t114)))) then (if (wrap64 (t115 + (wrap64 (t114)))) ≤ (l0.length : Int) then ((slices_Clone_byte_byte.f ((l0.take ((wrap64 (t115 + (wrap64 (t114)))) : Int).toNat).drop (t115 : Int).toNat)).bind fun t118 => (some (t118, wrap64 (t115 + (wrap64 (t114))), 0))) else (none)) else (none)) else (none)))) else (some (([] : List Int), 0, t116))) = some (r1, r2, r3) := H
  have A3 := Aside0.mk A30
  clear A30
  by_cases c4 : t116 = 0
  · rw [if_pos c4] at H
    have c4b0 : (t116 == 0) = true := beq_iff_eq.mpr c4
    have c4b1 : (t116 != 0) = false := bne_eq_false_iff_eq.mpr c4
    clear c4
    obtain ⟨ji5, hji5⟩ : ∃ j_ : Int, (mx a1 0) = j_ := ⟨_, rfl⟩
    replace H : (if t114 > (IntKind.u64.wrap (ji5)) then (some (([] : List Int), 0, 25)) else (if t114 > (IntKind.u64.wrap (wrap64 ((l0.length : Int) - t115))) then (some (([] : List Int), 0, 22)) else (if 0 ≤ t115 then (if t115 ≤ (wrap64 (t115 + (wrap64 (t114)))) then (if (wrap64 (t115 + (wrap64 (t114)))) ≤ (l0.length : Int) then ((slices_Clone_byte_byte.f ((l0.take ((wrap64 (t115 + (wrap64 (t114)))) : Int).toNat).drop (t115 : Int).toNat)).bind fun t118 => (some (t118, wrap64 (t115 + (wrap64 (t114))), 0))) else (none)) else (none)) else (none)))) = some (r1, r2, r3) := by first | (rw [hji5] at H; exact H) | (simp only [hji5] at H ⊢; exact H)
    (try rw [hji5] at A3)
    (try (have hji5l : 0 ≤ ji5 := by (rw [← hji5]; unfold mx; (repeat' split) <;> omega)))
    (try (have hji5m : 0 ≤ ji5 := by omega))
    have hji5_ : (if a1 < 0 then 0 else a1) = ji5 := hji5
    by_cases c6 : t114 > (IntKind.u64.wrap (ji5))
    · rw [if_pos c6] at H
      have c6b0 : decide ((IntKind.u64.wrap (ji5)) < t114) = true := decide_eq_true c6
      clear c6
      simp only [Option.some.injEq, Prod.mk.injEq] at H
      obtain ⟨rfl, rfl, rfl⟩ := H
      go_enter Try.func14, Try.ntmps14
      go_wp2_with (first | ((with_reducible refine gate_callee (f := 12) rfl ?_); refine goesL_ (some 13) rfl rfl Try.func12 (by kernel_rfl) rfl #[.slice A0 l0.length c0] rfl (by (try simp only [List.map_toArray, List.map_cons, List.map_nil]); first | done | rfl | (simp only [List.length_drop, List.length_take]; rfl)) ?_; (with_reducible refine (leb_Read.calls k _ _ l0 t114 t115 t116 _ ?side1 ?side2 A3.out).mono ?_); (case side1 => repeat (first | exact HR0.out | (with_reducible refine Kd.C_alloc ?_ _) | (with_reducible refine Kd.C_drewN ?_ _) | (with_reducible refine Kd.C_drew ?_))); (case side2 => exact HC0.out); rintro e w' ⟨rfl, ⟨nd, rfl⟩⟩; refine ⟨_, rfl, ?_⟩))
      go_ret3
      exact ⟨_, by first | rfl | (simp [errW_none, errW_some] <;> rfl) | (simp only [← hji5]; first | rfl | (simp [errW_none, errW_some] <;> rfl)) | (simp [*, errW_none, errW_some] <;> rfl), by first | exact Kd.R_nil _ _ _ _ _ | exact Kd.N_nil _ _ _ _ _ | exact Kd.V_nil _ _ _ _ _ | exact Kd.Q_nil _ _ _ _ _ | exact Kd.S_nil _ _ _ _ _, by repeat (first | (with_reducible first | exact HB.out | apply below_alloc | apply pw_below_drewN | apply below_drew1) | exact HB.out)⟩
    · rw [if_neg c6] at H
      have c6b0 : decide ((IntKind.u64.wrap (ji5)) < t114) = false := decide_eq_false c6
      clear c6
      by_cases c7 : t114 > (IntKind.u64.wrap (wrap64 ((l0.length : Int) - t115)))
      · rw [if_pos c7] at H
        have c7b0 : decide ((IntKind.u64.wrap (wrap64 ((l0.length : Int) - t115))) < t114) = true := decide_eq_true c7
        clear c7
        simp only [Option.some.injEq, Prod.mk.injEq] at H
        obtain ⟨rfl, rfl, rfl⟩ := H
        go_enter Try.func14, Try.ntmps14
        go_wp2_with (first | ((with_reducible refine gate_callee (f := 12) rfl ?_); refine goesL_ (some 13) rfl rfl Try.func12 (by kernel_rfl) rfl #[.slice A0 l0.length c0] rfl (by (try simp only [List.map_toArray, List.map_cons, List.map_nil]); first | done | rfl | (simp only [List.length_drop, List.length_take]; rfl)) ?_; (with_reducible refine (leb_Read.calls k _ _ l0 t114 t115 t116 _ ?side1 ?side2 A3.out).mono ?_); (case side1 => repeat (first | exact HR0.out | (with_reducible refine Kd.C_alloc ?_ _) | (with_reducible refine Kd.C_drewN ?_ _) | (with_reducible refine Kd.C_drew ?_))); (case side2 => exact HC0.out); rintro e w' ⟨rfl, ⟨nd, rfl⟩⟩; refine ⟨_, rfl, ?_⟩))
        go_ret3
        exact ⟨_, by first | rfl | (simp [errW_none, errW_some] <;> rfl) | (simp only [← hji5]; first | rfl | (simp [errW_none, errW_some] <;> rfl)) | (simp [*, errW_none, errW_some] <;> rfl), by first | exact Kd.R_nil _ _ _ _ _ | exact Kd.N_nil _ _ _ _ _ | exact Kd.V_nil _ _ _ _ _ | exact Kd.Q_nil _ _ _ _ _ | exact Kd.S_nil _ _ _ _ _, by repeat (first | (with_reducible first | exact HB.out | apply below_alloc | apply pw_below_drewN | apply below_drew1) | exact HB.out)⟩
      · rw [if_neg c7] at H
        have c7b0 : decide ((IntKind.u64.wrap (wrap64 ((l0.length : Int) - t115))) < t114) = false := decide_eq_false c7
        clear c7
        by_cases c8 : 0 ≤ t115
        · rw [if_pos c8] at H
          have c8b0 := eq_true c8
          have c8b1 : decide (0 ≤ t115) = true := decide_eq_true c8
          clear c8
          by_cases c9 : t115 ≤ (wrap64 (t115 + (wrap64 (t114))))
          · rw [if_pos c9] at H
            have c9b0 := eq_true c9
            have c9b1 : decide (t115 ≤ (wrap64 (t115 + (wrap64 (t114))))) = true := decide_eq_true c9
            by_cases c10 : (wrap64 (t115 + (wrap64 (t114)))) ≤ (l0.length : Int)
            · rw [if_pos c10] at H
              have c10b0 := eq_true c10
              have c10b1 : decide ((wrap64 (t115 + (wrap64 (t114)))) ≤ (l0.length : Int)) = true := decide_eq_true c10
              replace H := Option.bind_eq_some_iff.mp H
              obtain ⟨t118, A110, H⟩ := H
              replace H : (some (t118, wrap64 (t115 + (wrap64 (t114))), 0)) = some (r1, r2, r3) := H
              have A11 := Aside0.mk A110
              clear A110
              simp only [Option.some.injEq, Prod.mk.injEq] at H
              obtain ⟨rfl, rfl, rfl⟩ := H
              go_enter Try.func14, Try.ntmps14
              go_wp2_with (first | ((with_reducible refine gate_callee (f := 12) rfl ?_); refine goesL_ (some 13) rfl rfl Try.func12 (by kernel_rfl) rfl #[.slice A0 l0.length c0] rfl (by (try simp only [List.map_toArray, List.map_cons, List.map_nil]); first | done | rfl | (simp only [List.length_drop, List.length_take]; rfl)) ?_; (with_reducible refine (leb_Read.calls k _ _ l0 t114 t115 t116 _ ?side1 ?side2 A3.out).mono ?_); (case side1 => repeat (first | exact HR0.out | (with_reducible refine Kd.C_alloc ?_ _) | (with_reducible refine Kd.C_drewN ?_ _) | (with_reducible refine Kd.C_drew ?_))); (case side2 => exact HC0.out); rintro e w' ⟨rfl, ⟨nd, rfl⟩⟩; refine ⟨_, rfl, ?_⟩; obtain ⟨i012, hi012, _, hsz12, _⟩ := info_parts info5; obtain ⟨A12, hcut12, hA12, hC12⟩ := print_mid_of (P := Try.prog) (Value.int .u8) 0 23 5 .i64 .i64 Try.underlying23 hi012 hsz12 A0 c0 l0 t115 (wrap64 (t115 + (wrap64 (t114)))) (of_decide_eq_true (by first | (with_reducible assumption) | assumption)) (by first | omega | exact of_decide_eq_true (by first | (with_reducible assumption) | assumption)) (of_decide_eq_true (by first | (with_reducible assumption) | assumption)) HC0.out; have HR117 := Aside0.mk (Kd.C_of_reads (h1 := fun _ => rfl) (hA12 _ (Kd.reads_of_C HR0.out))); have HC117 := Aside0.mk hC12; clear hA12 hC12 hi012 hsz12) | ((with_reducible refine gate_callee (f := 18) rfl ?_); refine goesL_ (some 43) rfl rfl Try.func18 (by kernel_rfl) rfl #[.slice A12 ((l0.take ((wrap64 (t115 + (wrap64 (t114)))) : Int).toNat).drop (t115 : Int).toNat).length (c0 - t115.toNat)] rfl (by (try simp only [List.map_toArray, List.map_cons, List.map_nil]); first | done | (rw [show ((l0.take ((wrap64 (t115 + (wrap64 (t114)))) : Int).toNat).drop (t115 : Int).toNat).length = ((wrap64 (t115 + (wrap64 (t114)))).toNat - t115.toNat) from (by rw [List.length_drop, List.length_take]; have h_ : ((wrap64 (t115 + (wrap64 (t114)))) : Int) ≤ (l0.length : Int) := of_decide_eq_true (by first | (with_reducible assumption) | assumption); omega)] <;> rfl) | rfl | (simp only [List.length_drop, List.length_take]; rfl)) ?_; (with_reducible refine (slices_Clone_byte_byte.calls _ _ ((l0.take ((wrap64 (t115 + (wrap64 (t114)))) : Int).toNat).drop (t115 : Int).toNat) t118 _ ?side1 ?side2 A11.out).mono ?_); (case side1 => repeat (first | exact HR117.out | (with_reducible refine Kd.C_alloc ?_ _) | (with_reducible refine Kd.C_drewN ?_ _) | (with_reducible refine Kd.C_drew ?_))); (case side2 => exact HC117.out); rintro e w13 ⟨v119, rfl, ho0, hb⟩; refine ⟨_, rfl, ?_⟩; have n0_ := Aside0.mk (Kd.R_lower ho0 (below_size (by repeat (first | (with_reducible first | exact HB.out | apply below_alloc | apply pw_below_drewN | apply below_drew1) | exact HB.out)))); have n1_ := Aside0.mk (below_step (by repeat (first | (with_reducible first | exact HB.out | apply below_alloc | apply pw_below_drewN | apply below_drew1) | exact HB.out)) hb); clear HB; have HO120 := n0_; have HB := n1_; clear n0_ n1_; (try clear hb); (try clear hb2); (try clear hk); (try clear hi); (try clear ho0)))
              go_ret3
              exact ⟨_, by first | rfl | (simp [errW_none, errW_some] <;> rfl) | (simp only [← hji5]; first | rfl | (simp [errW_none, errW_some] <;> rfl)) | (simp [*, errW_none, errW_some] <;> rfl), by (with_reducible repeat (first | apply Kd.R_alloc | apply Kd.R_drewN | apply Kd.R_drew)); exact HO120.out, by repeat (first | (with_reducible first | exact HB.out | apply below_alloc | apply pw_below_drewN | apply below_drew1) | exact HB.out)⟩
            · rw [if_neg c10] at H
              exact absurd H (by simp)
          · rw [if_neg c9] at H
            exact absurd H (by simp)
        · rw [if_neg c8] at H
          exact absurd H (by simp)
  · rw [if_neg c4] at H
    have c4b0 : (t116 == 0) = false := beq_eq_false_iff_ne.mpr c4
    have c4b1 : (t116 != 0) = true := bne_iff_ne.mpr c4
    simp only [Option.some.injEq, Prod.mk.injEq] at H
    obtain ⟨rfl, rfl, rfl⟩ := H
    go_enter Try.func14, Try.ntmps14
    go_wp2_with (first | ((with_reducible refine gate_callee (f := 12) rfl ?_); refine goesL_ (some 13) rfl rfl Try.func12 (by kernel_rfl) rfl #[.slice A0 l0.length c0] rfl (by (try simp only [List.map_toArray, List.map_cons, List.map_nil]); first | done | rfl | (simp only [List.length_drop, List.length_take]; rfl)) ?_; (with_reducible refine (leb_Read.calls k _ _ l0 t114 t115 t116 _ ?side1 ?side2 A3.out).mono ?_); (case side1 => repeat (first | exact HR0.out | (with_reducible refine Kd.C_alloc ?_ _) | (with_reducible refine Kd.C_drewN ?_ _) | (with_reducible refine Kd.C_drew ?_))); (case side2 => exact HC0.out); rintro e w' ⟨rfl, ⟨nd, rfl⟩⟩; refine ⟨_, rfl, ?_⟩))
    go_ret3
    exact ⟨_, by first | rfl | (simp [errW_none, errW_some] <;> rfl) | (simp [*, errW_none, errW_some] <;> rfl), by first | exact Kd.R_nil _ _ _ _ _ | exact Kd.N_nil _ _ _ _ _ | exact Kd.V_nil _ _ _ _ _ | exact Kd.Q_nil _ _ _ _ _ | exact Kd.S_nil _ _ _ _ _, by repeat (first | (with_reducible first | exact HB.out | apply below_alloc | apply pw_below_drewN | apply below_drew1) | exact HB.out)⟩

/-! ### repriselaw1_known: function 4 -/
def repriselaw1_known.f (k : Nat)  : Option (Bool) := (leb_Read.f k (([172, 2, 9] : List Int))).bind fun bt124 => ((leb_Read.f k (([128, 0] : List Int))).bind fun bt130 => ((leb_ReadBytes.f k (([2, 97, 98, 99] : List Int)) 5).bind fun bt136 => ((leb_Put.f k 300).bind fun t141 => (if (strOfNums t141).toList = ([172, 2] : List UInt8) then (if bt124.1 = 300 then (if bt124.2.1 = 2 then (if bt124.2.2 = 0 then (if bt130.2.2 = 21 then (if (strOfNums bt136.1).toList = ([97, 98] : List UInt8) then (if bt136.2.1 = 3 then (if bt136.2.2 = 0 then ((leb_Zig.f (-1)).bind fun t144 => (if t144 = 1 then ((leb_Zag.f 2).bind fun t145 => (some (t145 == 1))) else (none))) else (none)) else (none)) else (none)) else (none)) else (none)) else (none)) else (none)) else (none)))))
theorem repriselaw1_known.mono : ∀ k, LeO (repriselaw1_known.f k ) (repriselaw1_known.f (k + 1) ) := by
  intro  k
  unfold repriselaw1_known.f
  repeat' first
      | (with_reducible exact leb_Put.mono _ _)
      | (with_reducible exact leb_Read.mono _ _)
      | (with_reducible exact leb_ReadBytes.mono _ _ _)
      | (with_reducible exact LeO.refl _)
      | (with_reducible exact LeO.none _)
      | (with_reducible refine LeO.ite ?_ ?_)
      | (with_reducible refine LeO.bind ?_ (fun _ => ?_))
      | exact leb_Put.mono _ _
      | exact leb_Read.mono _ _
      | exact leb_ReadBytes.mono _ _ _
      | exact LeO.none _
      | refine LeO.ite ?_ ?_
      | refine LeO.bind ?_ (fun _ => ?_)
set_option maxHeartbeats 8000000 in
set_option maxRecDepth 100000 in
theorem repriselaw1_known.calls (k : Nat)  (r : Bool) (w : World) (h : repriselaw1_known.f k  = some r) :
    Calls Try.prog 4 #[] w fun e w' => e = .returned (.bool r) ∧ Below w.heap.size w w' := by
  have HB := Aside0.mk (Below.refl w.heap.size w)
  have H : ((leb_Read.f k (([172, 2, 9] : List Int))).bind fun bt124 => ((leb_Read.f k (([128, 0] : List Int))).bind fun bt130 => ((leb_ReadBytes.f k (([2, 97, 98, 99] : List Int)) 5).bind fun bt136 => ((leb_Put.f k 300).bind fun t141 => (if (strOfNums t141).toList = ([172, 2] : List UInt8) then (if bt124.1 = 300 then (if bt124.2.1 = 2 then (if bt124.2.2 = 0 then (if bt130.2.2 = 21 then (if (strOfNums bt136.1).toList = ([97, 98] : List UInt8) then (if bt136.2.1 = 3 then (if bt136.2.2 = 0 then ((leb_Zig.f (-1)).bind fun t144 => (if t144 = 1 then ((leb_Zag.f 2).bind fun t145 => (some (t145 == 1))) else (none))) else (none)) else (none)) else (none)) else (none)) else (none)) else (none)) else (none)) else (none)))))) = some r := h
  clear h
  obtain ⟨y121, hy121⟩ : ∃ y_ : List Int, y_ = (([172, 2, 9] : List Int)) := ⟨_, rfl⟩
  replace H : ((leb_Read.f k y121).bind fun bt124 => ((leb_Read.f k (([128, 0] : List Int))).bind fun bt130 => ((leb_ReadBytes.f k (([2, 97, 98, 99] : List Int)) 5).bind fun bt136 => ((leb_Put.f k 300).bind fun t141 => (if (strOfNums t141).toList = ([172, 2] : List UInt8) then (if bt124.1 = 300 then (if bt124.2.1 = 2 then (if bt124.2.2 = 0 then (if bt130.2.2 = 21 then (if (strOfNums bt136.1).toList = ([97, 98] : List UInt8) then (if bt136.2.1 = 3 then (if bt136.2.2 = 0 then ((leb_Zig.f (-1)).bind fun t144 => (if t144 = 1 then ((leb_Zag.f 2).bind fun t145 => (some (t145 == 1))) else (none))) else (none)) else (none)) else (none)) else (none)) else (none)) else (none)) else (none)) else (none)))))) = some r := by first | (rw [hy121]; with_reducible exact H) | (have H2_ := (Option.bind_some _ _).symm.trans H; rw [hy121]; with_reducible exact H2_) | (have H2_ := (Option.bind_some _ _).symm.trans H; with_reducible exact H2_) | with_reducible exact H | (rw [hy121]; exact H) | exact H
  have Ny121 := Aside0.mk hy121
  clear hy121
  replace H := Option.bind_eq_some_iff.mp H
  obtain ⟨⟨t124, t125, t126⟩, A10, H⟩ := H
  replace H : ((leb_Read.f k (([128, 0] : List Int))).bind fun bt130 => ((leb_ReadBytes.f k (([2, 97, 98, 99] : List Int)) 5).bind fun bt136 => ((leb_Put.f k 300).bind fun t141 => (if (strOfNums t141).toList = ([172, 2] : List UInt8) then (if t124 = 300 then (if t125 = 2 then (if t126 = 0 then (if bt130.2.2 = 21 then (if (strOfNums bt136.1).toList = ([97, 98] : List UInt8) then (if bt136.2.1 = 3 then (if bt136.2.2 = 0 then ((leb_Zig.f (-1)).bind fun t144 => (if t144 = 1 then ((leb_Zag.f 2).bind fun t145 => (some (t145 == 1))) else (none))) else (none)) else (none)) else (none)) else (none)) else (none)) else (none)) else (none)) else (none))))) = some r := H
  have A1 := Aside0.mk A10
  clear A10
  obtain ⟨y127, hy127⟩ : ∃ y_ : List Int, y_ = (([128, 0] : List Int)) := ⟨_, rfl⟩
  replace H : ((leb_Read.f k y127).bind fun bt130 => ((leb_ReadBytes.f k (([2, 97, 98, 99] : List Int)) 5).bind fun bt136 => ((leb_Put.f k 300).bind fun t141 => (if (strOfNums t141).toList = ([172, 2] : List UInt8) then (if t124 = 300 then (if t125 = 2 then (if t126 = 0 then (if bt130.2.2 = 21 then (if (strOfNums bt136.1).toList = ([97, 98] : List UInt8) then (if bt136.2.1 = 3 then (if bt136.2.2 = 0 then ((leb_Zig.f (-1)).bind fun t144 => (if t144 = 1 then ((leb_Zag.f 2).bind fun t145 => (some (t145 == 1))) else (none))) else (none)) else (none)) else (none)) else (none)) else (none)) else (none)) else (none)) else (none))))) = some r := by first | (rw [hy127]; with_reducible exact H) | (have H2_ := (Option.bind_some _ _).symm.trans H; rw [hy127]; with_reducible exact H2_) | (have H2_ := (Option.bind_some _ _).symm.trans H; with_reducible exact H2_) | with_reducible exact H | (rw [hy127]; exact H) | exact H
  have Ny127 := Aside0.mk hy127
  clear hy127
  replace H := Option.bind_eq_some_iff.mp H
  obtain ⟨⟨t130, t131, t132⟩, A20, H⟩ := H
  replace H : ((leb_ReadBytes.f k (([2, 97, 98, 99] : List Int)) 5).bind fun bt136 => ((leb_Put.f k 300).bind fun t141 => (if (strOfNums t141).toList = ([172, 2] : List UInt8) then (if t124 = 300 then (if t125 = 2 then (if t126 = 0 then (if t132 = 21 then (if (strOfNums bt136.1).toList = ([97, 98] : List UInt8) then (if bt136.2.1 = 3 then (if bt136.2.2 = 0 then ((leb_Zig.f (-1)).bind fun t144 => (if t144 = 1 then ((leb_Zag.f 2).bind fun t145 => (some (t145 == 1))) else (none))) else (none)) else (none)) else (none)) else (none)) else (none)) else (none)) else (none)) else (none)))) = some r := H
  have A2 := Aside0.mk A20
  clear A20
  obtain ⟨y133, hy133⟩ : ∃ y_ : List Int, y_ = (([2, 97, 98, 99] : List Int)) := ⟨_, rfl⟩
  replace H : ((leb_ReadBytes.f k y133 5).bind fun bt136 => ((leb_Put.f k 300).bind fun t141 => (if (strOfNums t141).toList = ([172, 2] : List UInt8) then (if t124 = 300 then (if t125 = 2 then (if t126 = 0 then (if t132 = 21 then (if (strOfNums bt136.1).toList = ([97, 98] : List UInt8) then (if bt136.2.1 = 3 then (if bt136.2.2 = 0 then ((leb_Zig.f (-1)).bind fun t144 => (if t144 = 1 then ((leb_Zag.f 2).bind fun t145 => (some (t145 == 1))) else (none))) else (none)) else (none)) else (none)) else (none)) else (none)) else (none)) else (none)) else (none)))) = some r := by first | (rw [hy133]; with_reducible exact H) | (have H2_ := (Option.bind_some _ _).symm.trans H; rw [hy133]; with_reducible exact H2_) | (have H2_ := (Option.bind_some _ _).symm.trans H; with_reducible exact H2_) | with_reducible exact H | (rw [hy133]; exact H) | exact H
  have Ny133 := Aside0.mk hy133
  clear hy133
  replace H := Option.bind_eq_some_iff.mp H
  obtain ⟨⟨t136, t137, t138⟩, A30, H⟩ := H
  replace H : ((leb_Put.f k 300).bind fun t141 => (if (strOfNums t141).toList = ([172, 2] : List UInt8) then (if t124 = 300 then (if t125 = 2 then (if t126 = 0 then (if t132 = 21 then (if (strOfNums t136).toList = ([97, 98] : List UInt8) then (if t137 = 3 then (if t138 = 0 then ((leb_Zig.f (-1)).bind fun t144 => (if t144 = 1 then ((leb_Zag.f 2).bind fun t145 => (some (t145 == 1))) else (none))) else (none)) else (none)) else (none)) else (none)) else (none)) else (none)) else (none)) else (none))) = some r := H
  have A3 := Aside0.mk A30
  clear A30
  replace H := Option.bind_eq_some_iff.mp H
  obtain ⟨t141, A40, H⟩ := H
  replace H : (if (strOfNums t141).toList = ([172, 2] : List UInt8) then (if t124 = 300 then (if t125 = 2 then (if t126 = 0 then (if t132 = 21 then (if (strOfNums t136).toList = ([97, 98] : List UInt8) then (if t137 = 3 then (if t138 = 0 then ((leb_Zig.f (-1)).bind fun t144 => (if t144 = 1 then ((leb_Zag.f 2).bind fun t145 => (some (t145 == 1))) else (none))) else (none)) else (none)) else (none)) else (none)) else (none)) else (none)) else (none)) else (none)) = some r := H
  have A4 := Aside0.mk A40
  clear A40
  by_cases c5 : (strOfNums t141).toList = ([172, 2] : List UInt8)
  · rw [if_pos c5] at H
    have c5b0 : ((strOfNums t141).toList == ([172, 2] : List UInt8)) = true := beq_iff_eq.mpr c5
    have c5b1 : ((strOfNums t141).toList != ([172, 2] : List UInt8)) = false := bne_eq_false_iff_eq.mpr c5
    clear c5
    by_cases c6 : t124 = 300
    · rw [if_pos c6] at H
      have c6b0 : (t124 == 300) = true := beq_iff_eq.mpr c6
      have c6b1 : (t124 != 300) = false := bne_eq_false_iff_eq.mpr c6
      clear c6
      by_cases c7 : t125 = 2
      · rw [if_pos c7] at H
        have c7b0 : (t125 == 2) = true := beq_iff_eq.mpr c7
        have c7b1 : (t125 != 2) = false := bne_eq_false_iff_eq.mpr c7
        clear c7
        by_cases c8 : t126 = 0
        · rw [if_pos c8] at H
          have c8b0 : (t126 == 0) = true := beq_iff_eq.mpr c8
          have c8b1 : (t126 != 0) = false := bne_eq_false_iff_eq.mpr c8
          clear c8
          by_cases c9 : t132 = 21
          · rw [if_pos c9] at H
            have c9b0 : (t132 == 21) = true := beq_iff_eq.mpr c9
            have c9b1 : (t132 != 21) = false := bne_eq_false_iff_eq.mpr c9
            clear c9
            by_cases c10 : (strOfNums t136).toList = ([97, 98] : List UInt8)
            · rw [if_pos c10] at H
              have c10b0 : ((strOfNums t136).toList == ([97, 98] : List UInt8)) = true := beq_iff_eq.mpr c10
              have c10b1 : ((strOfNums t136).toList != ([97, 98] : List UInt8)) = false := bne_eq_false_iff_eq.mpr c10
              clear c10
              by_cases c11 : t137 = 3
              · rw [if_pos c11] at H
                have c11b0 : (t137 == 3) = true := beq_iff_eq.mpr c11
                have c11b1 : (t137 != 3) = false := bne_eq_false_iff_eq.mpr c11
                clear c11
                by_cases c12 : t138 = 0
                · rw [if_pos c12] at H
                  have c12b0 : (t138 == 0) = true := beq_iff_eq.mpr c12
                  have c12b1 : (t138 != 0) = false := bne_eq_false_iff_eq.mpr c12
                  clear c12
                  replace H := Option.bind_eq_some_iff.mp H
                  obtain ⟨t144, A130, H⟩ := H
                  replace H : (if t144 = 1 then ((leb_Zag.f 2).bind fun t145 => (some (t145 == 1))) else (none)) = some r := H
                  have A13 := Aside0.mk A130
                  clear A130
                  by_cases c14 : t144 = 1
                  · rw [if_pos c14] at H
                    have c14b0 : (t144 == 1) = true := beq_iff_eq.mpr c14
                    have c14b1 : (t144 != 1) = false := bne_eq_false_iff_eq.mpr c14
                    clear c14
                    replace H := Option.bind_eq_some_iff.mp H
                    obtain ⟨t145, A150, H⟩ := H
                    replace H : (some (t145 == 1)) = some r := H
                    have A15 := Aside0.mk A150
                    clear A150
                    obtain rfl := Option.some.inj H
                    go_enter Try.func4, Try.ntmps4
                    go_wp2_with (first | ((with_reducible refine gate_dst (N := 11) rfl ?_); refine Kd.R_lit (Kd.int .u8) _ 5 ?hg (N := 11) ?hd (xs := ([172, 2, 9] : List Int)) (inner := [.int .u8 172, .int .u8 2, .int .u8 9]) (ok := fun _ => True) (okp := fun _ => True) ?hr ?hp (fun _ hk => hk) trivial (Below.refl _ _) (Nat.le_refl _) (by simp) ?_; (case hd => rfl); (case hg => rfl); (case hr => first | (go_simp; done) | (go_simp; rfl)); (case hp => exact (Reps.one (show Kd.M (Kd.int .u8) _ _ _ 172 [.int .u8 172] from rfl) (Reps.one (show Kd.M (Kd.int .u8) _ _ _ 2 [.int .u8 2] from rfl) (Reps.one (show Kd.M (Kd.int .u8) _ _ _ 9 [.int .u8 9] from rfl) (Reps.none _ _))))); intro v122 w16 ho17 hb hg_ hnew_; clear hg_ hnew_; (first | rw [← Ny121.out] at ho17 | (simp only [Int.reduceToNat] at ho17; rw [← Ny121.out] at ho17)); have n0_ := Aside0.mk (Kd.R_lower ho17 (below_size (by repeat (first | (with_reducible first | exact HB.out | apply below_alloc | apply pw_below_drewN | apply below_drew1) | exact HB.out)))); have n1_ := Aside0.mk (below_step (by repeat (first | (with_reducible first | exact HB.out | apply below_alloc | apply pw_below_drewN | apply below_drew1) | exact HB.out)) hb); clear HB; have HO123 := n0_; have HB := n1_; clear n0_ n1_; clear hb ho17; obtain ⟨Ao18, co18, eo18⟩ := Kd.R_slice HO123.out; subst eo18) | ((with_reducible refine gate_callee (f := 12) rfl ?_); refine goesL_ (some 12) rfl rfl Try.func12 (by kernel_rfl) rfl #[.slice Ao18 y121.length co18] rfl (by (try simp only [List.map_toArray, List.map_cons, List.map_nil]); first | done | rfl | (simp only [List.length_drop, List.length_take]; rfl)) ?_; (with_reducible refine (leb_Read.calls k _ _ y121 t124 t125 t126 _ ?side1 ?side2 A1.out).mono ?_); (case side1 => repeat (first | exact (Kd.R_reads' HO123.out).2.2 | (with_reducible refine Kd.C_alloc ?_ _) | (with_reducible refine Kd.C_drewN ?_ _) | (with_reducible refine Kd.C_drew ?_))); (case side2 => exact (Kd.R_reads' HO123.out).2.1); rintro e w' ⟨rfl, ⟨nd, rfl⟩⟩; refine ⟨_, rfl, ?_⟩) | ((with_reducible refine gate_dst (N := 17) rfl ?_); refine Kd.R_lit (Kd.int .u8) _ 5 ?hg (N := 17) ?hd (xs := ([128, 0] : List Int)) (inner := [.int .u8 128, .int .u8 0]) (ok := fun _ => True) (okp := fun _ => True) ?hr ?hp (fun _ hk => hk) trivial (Below.refl _ _) (Nat.le_refl _) (by simp) ?_; (case hd => rfl); (case hg => rfl); (case hr => first | (go_simp; done) | (go_simp; rfl)); (case hp => exact (Reps.one (show Kd.M (Kd.int .u8) _ _ _ 128 [.int .u8 128] from rfl) (Reps.one (show Kd.M (Kd.int .u8) _ _ _ 0 [.int .u8 0] from rfl) (Reps.none _ _)))); intro v128 w19 ho20 hb hg_ hnew_; clear hg_ hnew_; (first | rw [← Ny127.out] at ho20 | (simp only [Int.reduceToNat] at ho20; rw [← Ny127.out] at ho20)); have n0_ := Aside0.mk (Kd.R_elder' (by (with_reducible repeat (first | apply Kd.R_alloc | apply Kd.R_drewN | apply Kd.R_drew)); exact HO123.out) (Kd.R_base ho20) hb); have n1_ := Aside0.mk (Kd.R_lower (Kd.R_new' ho20 (Kd.R_lt (by (with_reducible repeat (first | apply Kd.R_alloc | apply Kd.R_drewN | apply Kd.R_drew)); exact HO123.out))) (below_size (by repeat (first | (with_reducible first | exact HB.out | apply below_alloc | apply pw_below_drewN | apply below_drew1) | exact HB.out)))); have n2_ := Aside0.mk (below_step (by repeat (first | (with_reducible first | exact HB.out | apply below_alloc | apply pw_below_drewN | apply below_drew1) | exact HB.out)) hb); clear HO123; clear HB; have HO123 := n0_; have HO129 := n1_; have HB := n2_; clear n0_ n1_ n2_; clear hb ho20; obtain ⟨Ao21, co21, eo21⟩ := Kd.R_slice HO129.out; subst eo21) | ((with_reducible refine gate_callee (f := 12) rfl ?_); refine goesL_ (some 18) rfl rfl Try.func12 (by kernel_rfl) rfl #[.slice Ao21 y127.length co21] rfl (by (try simp only [List.map_toArray, List.map_cons, List.map_nil]); first | done | rfl | (simp only [List.length_drop, List.length_take]; rfl)) ?_; (with_reducible refine (leb_Read.calls k _ _ y127 t130 t131 t132 _ ?side1 ?side2 A2.out).mono ?_); (case side1 => repeat (first | exact (Kd.R_reads' HO129.out).2.2 | (with_reducible refine Kd.C_alloc ?_ _) | (with_reducible refine Kd.C_drewN ?_ _) | (with_reducible refine Kd.C_drew ?_))); (case side2 => exact (Kd.R_reads' HO129.out).2.1); rintro e w' ⟨rfl, ⟨nd, rfl⟩⟩; refine ⟨_, rfl, ?_⟩) | ((with_reducible refine gate_dst (N := 23) rfl ?_); refine Kd.R_lit (Kd.int .u8) _ 5 ?hg (N := 23) ?hd (xs := ([2, 97, 98, 99] : List Int)) (inner := [.int .u8 2, .int .u8 97, .int .u8 98, .int .u8 99]) (ok := fun _ => True) (okp := fun _ => True) ?hr ?hp (fun _ hk => hk) trivial (Below.refl _ _) (Nat.le_refl _) (by simp) ?_; (case hd => rfl); (case hg => rfl); (case hr => first | (go_simp; done) | (go_simp; rfl)); (case hp => exact (Reps.one (show Kd.M (Kd.int .u8) _ _ _ 2 [.int .u8 2] from rfl) (Reps.one (show Kd.M (Kd.int .u8) _ _ _ 97 [.int .u8 97] from rfl) (Reps.one (show Kd.M (Kd.int .u8) _ _ _ 98 [.int .u8 98] from rfl) (Reps.one (show Kd.M (Kd.int .u8) _ _ _ 99 [.int .u8 99] from rfl) (Reps.none _ _)))))); intro v134 w22 ho23 hb hg_ hnew_; clear hg_ hnew_; (first | rw [← Ny133.out] at ho23 | (simp only [Int.reduceToNat] at ho23; rw [← Ny133.out] at ho23)); have n0_ := Aside0.mk (Kd.R_elder' (by (with_reducible repeat (first | apply Kd.R_alloc | apply Kd.R_drewN | apply Kd.R_drew)); exact HO123.out) (Kd.R_base ho23) hb); have n1_ := Aside0.mk (Kd.R_elder' (by (with_reducible repeat (first | apply Kd.R_alloc | apply Kd.R_drewN | apply Kd.R_drew)); exact HO129.out) (Kd.R_base ho23) hb); have n2_ := Aside0.mk (Kd.R_lower (Kd.R_new' (Kd.R_new' ho23 (Kd.R_lt (by (with_reducible repeat (first | apply Kd.R_alloc | apply Kd.R_drewN | apply Kd.R_drew)); exact HO123.out))) (Kd.R_lt (by (with_reducible repeat (first | apply Kd.R_alloc | apply Kd.R_drewN | apply Kd.R_drew)); exact HO129.out))) (below_size (by repeat (first | (with_reducible first | exact HB.out | apply below_alloc | apply pw_below_drewN | apply below_drew1) | exact HB.out)))); have n3_ := Aside0.mk (below_step (by repeat (first | (with_reducible first | exact HB.out | apply below_alloc | apply pw_below_drewN | apply below_drew1) | exact HB.out)) hb); clear HO123; clear HO129; clear HB; have HO123 := n0_; have HO129 := n1_; have HO135 := n2_; have HB := n3_; clear n0_ n1_ n2_ n3_; clear hb ho23; obtain ⟨Ao24, co24, eo24⟩ := Kd.R_slice HO135.out; subst eo24) | ((with_reducible refine gate_callee (f := 14) rfl ?_); refine goesL_ (some 24) rfl rfl Try.func14 (by kernel_rfl) rfl #[.slice Ao24 y133.length co24, .int .i64 5] rfl (by (try simp only [List.map_toArray, List.map_cons, List.map_nil]); first | done | rfl | (simp only [List.length_drop, List.length_take]; rfl)) ?_; (with_reducible refine (leb_ReadBytes.calls k _ _ y133 5 t136 t137 t138 _ ?side1 ?side2 A3.out).mono ?_); (case side1 => repeat (first | exact (Kd.R_reads' HO135.out).2.2 | (with_reducible refine Kd.C_alloc ?_ _) | (with_reducible refine Kd.C_drewN ?_ _) | (with_reducible refine Kd.C_drew ?_))); (case side2 => exact (Kd.R_reads' HO135.out).2.1); rintro e w25 ⟨v139, rfl, ho0, hb⟩; refine ⟨_, rfl, ?_⟩; have n0_ := Aside0.mk (Kd.R_elder' (by (with_reducible repeat (first | apply Kd.R_alloc | apply Kd.R_drewN | apply Kd.R_drew)); exact HO123.out) (Kd.R_base ho0) hb); have n1_ := Aside0.mk (Kd.R_elder' (by (with_reducible repeat (first | apply Kd.R_alloc | apply Kd.R_drewN | apply Kd.R_drew)); exact HO129.out) (Kd.R_base ho0) hb); have n2_ := Aside0.mk (Kd.R_elder' (by (with_reducible repeat (first | apply Kd.R_alloc | apply Kd.R_drewN | apply Kd.R_drew)); exact HO135.out) (Kd.R_base ho0) hb); have n3_ := Aside0.mk (Kd.R_lower (Kd.R_new' (Kd.R_new' (Kd.R_new' ho0 (Kd.R_lt (by (with_reducible repeat (first | apply Kd.R_alloc | apply Kd.R_drewN | apply Kd.R_drew)); exact HO123.out))) (Kd.R_lt (by (with_reducible repeat (first | apply Kd.R_alloc | apply Kd.R_drewN | apply Kd.R_drew)); exact HO129.out))) (Kd.R_lt (by (with_reducible repeat (first | apply Kd.R_alloc | apply Kd.R_drewN | apply Kd.R_drew)); exact HO135.out))) (below_size (by repeat (first | (with_reducible first | exact HB.out | apply below_alloc | apply pw_below_drewN | apply below_drew1) | exact HB.out)))); have n4_ := Aside0.mk (below_step (by repeat (first | (with_reducible first | exact HB.out | apply below_alloc | apply pw_below_drewN | apply below_drew1) | exact HB.out)) hb); clear HO123; clear HO129; clear HO135; clear HB; have HO123 := n0_; have HO129 := n1_; have HO135 := n2_; have HO140 := n3_; have HB := n4_; clear n0_ n1_ n2_ n3_ n4_; (try clear hb); (try clear hb2); (try clear hk); (try clear hi); (try clear ho0)) | ((with_reducible refine gate_callee (f := 7) rfl ?_); refine goesL_ (some 28) rfl rfl Try.func7 (by kernel_rfl) rfl #[.int .u64 300] rfl (by (try simp only [List.map_toArray, List.map_cons, List.map_nil]); first | done | rfl | (simp only [List.length_drop, List.length_take]; rfl)) ?_; (with_reducible refine (leb_Put.calls k 300 t141 _ A4.out).mono ?_); rintro e w26 ⟨v142, rfl, ho0, hb⟩; refine ⟨_, rfl, ?_⟩; have n0_ := Aside0.mk (Kd.R_elder' (by (with_reducible repeat (first | apply Kd.R_alloc | apply Kd.R_drewN | apply Kd.R_drew)); exact HO123.out) (Kd.R_base ho0) hb); have n1_ := Aside0.mk (Kd.R_elder' (by (with_reducible repeat (first | apply Kd.R_alloc | apply Kd.R_drewN | apply Kd.R_drew)); exact HO129.out) (Kd.R_base ho0) hb); have n2_ := Aside0.mk (Kd.R_elder' (by (with_reducible repeat (first | apply Kd.R_alloc | apply Kd.R_drewN | apply Kd.R_drew)); exact HO135.out) (Kd.R_base ho0) hb); have n3_ := Aside0.mk (Kd.R_elder' (by (with_reducible repeat (first | apply Kd.R_alloc | apply Kd.R_drewN | apply Kd.R_drew)); exact HO140.out) (Kd.R_base ho0) hb); have n4_ := Aside0.mk (Kd.R_lower (Kd.R_new' (Kd.R_new' (Kd.R_new' (Kd.R_new' ho0 (Kd.R_lt (by (with_reducible repeat (first | apply Kd.R_alloc | apply Kd.R_drewN | apply Kd.R_drew)); exact HO123.out))) (Kd.R_lt (by (with_reducible repeat (first | apply Kd.R_alloc | apply Kd.R_drewN | apply Kd.R_drew)); exact HO129.out))) (Kd.R_lt (by (with_reducible repeat (first | apply Kd.R_alloc | apply Kd.R_drewN | apply Kd.R_drew)); exact HO135.out))) (Kd.R_lt (by (with_reducible repeat (first | apply Kd.R_alloc | apply Kd.R_drewN | apply Kd.R_drew)); exact HO140.out))) (below_size (by repeat (first | (with_reducible first | exact HB.out | apply below_alloc | apply pw_below_drewN | apply below_drew1) | exact HB.out)))); have n5_ := Aside0.mk (below_step (by repeat (first | (with_reducible first | exact HB.out | apply below_alloc | apply pw_below_drewN | apply below_drew1) | exact HB.out)) hb); clear HO123; clear HO129; clear HO135; clear HO140; clear HB; have HO123 := n0_; have HO129 := n1_; have HO135 := n2_; have HO140 := n3_; have HO143 := n4_; have HB := n5_; clear n0_ n1_ n2_ n3_ n4_ n5_; (try clear hb); (try clear hb2); (try clear hk); (try clear hi); (try clear ho0); have hcv27 := own_string (P := Try.prog) Try.underlying23 Try.underlying5 Try.underlying9 (Kd.own_of_R HO143.out); have hcv28 := own_string (P := Try.prog) Try.underlying23 Try.underlying5 Try.underlying9 (Kd.own_of_R HO140.out)) | (go_at_call 10; (with_reducible refine (leb_Zig.calls (-1) t144 _ A13.out).mono ?_); rintro e w' ⟨rfl, ⟨nd, rfl⟩⟩) | (go_at_call 8; (with_reducible refine (leb_Zag.calls 2 t145 _ A15.out).mono ?_); rintro e w' ⟨rfl, ⟨nd, rfl⟩⟩))
                    go_ret
                    exact ⟨by first | rfl | (simp [errW_none, errW_some] <;> rfl) | (simp [*, errW_none, errW_some] <;> rfl), by repeat (first | (with_reducible first | exact HB.out | apply below_alloc | apply pw_below_drewN | apply below_drew1) | exact HB.out)⟩
                  · rw [if_neg c14] at H
                    exact absurd H (by simp)
                · rw [if_neg c12] at H
                  exact absurd H (by simp)
              · rw [if_neg c11] at H
                exact absurd H (by simp)
            · rw [if_neg c10] at H
              exact absurd H (by simp)
          · rw [if_neg c9] at H
            exact absurd H (by simp)
        · rw [if_neg c8] at H
          exact absurd H (by simp)
      · rw [if_neg c7] at H
        exact absurd H (by simp)
    · rw [if_neg c6] at H
      exact absurd H (by simp)
  · rw [if_neg c5] at H
    exact absurd H (by simp)

/-! ### repriselaw1_edge: function 5 -/
def repriselaw1_edge.f (a0 : Int) (a1 : Int) : Option (Int) := (some (([a0, a0 / 4294967296, a0 / 1125899906842624, a0 / 144115188075855872, 0, 127, 128, 16383, 16384, 9223372036854775807, 9223372036854775808, 18446744073709551615, 34359738368] : List Int) : List Int)).bind fun y146 => (if (y146.length : Int) = 0 then (none) else (if 0 ≤ (Int.tmod (wrap64 (a1)) (y146.length : Int)) then (if (Int.tmod (wrap64 (a1)) (y146.length : Int)) < (y146.length : Int) then (some (rd y146 (Int.tmod (wrap64 (a1)) (y146.length : Int)))) else (none)) else (none)))
set_option maxHeartbeats 8000000 in
set_option maxRecDepth 100000 in
theorem repriselaw1_edge.calls (a0 : Int) (a1 : Int) (r : Int) (w : World) (h : repriselaw1_edge.f a0 a1 = some r) :
    Calls Try.prog 5 #[.int .u64 a0, .int .u8 a1] w fun e w' => e = .returned (.int .u64 r) ∧ Below w.heap.size w w' := by
  have HB := Aside0.mk (Below.refl w.heap.size w)
  have H : ((some (([a0, a0 / 4294967296, a0 / 1125899906842624, a0 / 144115188075855872, 0, 127, 128, 16383, 16384, 9223372036854775807, 9223372036854775808, 18446744073709551615, 34359738368] : List Int) : List Int)).bind fun y146 => (if (y146.length : Int) = 0 then (none) else (if 0 ≤ (Int.tmod (wrap64 (a1)) (y146.length : Int)) then (if (Int.tmod (wrap64 (a1)) (y146.length : Int)) < (y146.length : Int) then (some (rd y146 (Int.tmod (wrap64 (a1)) (y146.length : Int)))) else (none)) else (none)))) = some r := h
  clear h
  obtain ⟨y146, hy146⟩ : ∃ y_ : List Int, y_ = (([a0, a0 / 4294967296, a0 / 1125899906842624, a0 / 144115188075855872, 0, 127, 128, 16383, 16384, 9223372036854775807, 9223372036854775808, 18446744073709551615, 34359738368] : List Int)) := ⟨_, rfl⟩
  replace H : (if (y146.length : Int) = 0 then (none) else (if 0 ≤ (Int.tmod (wrap64 (a1)) (y146.length : Int)) then (if (Int.tmod (wrap64 (a1)) (y146.length : Int)) < (y146.length : Int) then (some (rd y146 (Int.tmod (wrap64 (a1)) (y146.length : Int)))) else (none)) else (none))) = some r := by first | (rw [hy146]; with_reducible exact H) | (have H2_ := (Option.bind_some _ _).symm.trans H; rw [hy146]; with_reducible exact H2_) | (have H2_ := (Option.bind_some _ _).symm.trans H; with_reducible exact H2_) | with_reducible exact H | (rw [hy146]; exact H) | exact H
  have Ny146 := Aside0.mk hy146
  clear hy146
  by_cases c3 : (y146.length : Int) = 0
  · rw [if_pos c3] at H
    exact absurd H (by simp)
  · rw [if_neg c3] at H
    have c3b0 : ((y146.length : Int) == 0) = false := beq_eq_false_iff_ne.mpr c3
    have c3b1 : ((y146.length : Int) != 0) = true := bne_iff_ne.mpr c3
    have c3b2 : ¬ (y146 = []) := fun h_ => c3 (by rw [h_]; rfl)
    obtain ⟨ji4, hji4⟩ : ∃ j_ : Int, (Int.tmod (wrap64 (a1)) (y146.length : Int)) = j_ := ⟨_, rfl⟩
    replace H : (if 0 ≤ (ji4) then (if (ji4) < (y146.length : Int) then (some (rd y146 (ji4))) else (none)) else (none)) = some r := by first | (rw [hji4] at H; exact H) | (simp only [hji4] at H ⊢; exact H)
    by_cases c5 : 0 ≤ (ji4)
    · rw [if_pos c5] at H
      have c5b0 : decide (0 ≤ (ji4)) = true := decide_eq_true c5
      clear c5
      by_cases c6 : (ji4) < (y146.length : Int)
      · rw [if_pos c6] at H
        have c6b0 : decide ((ji4) < (y146.length : Int)) = true := decide_eq_true c6
        clear c6
        obtain rfl := Option.some.inj H
        go_enter Try.func5, Try.ntmps5
        go_wp2_with (first | ((with_reducible refine gate_dst (N := 13) rfl ?_); refine Kd.R_lit (Kd.int .u64) _ 22 ?hg (N := 13) ?hd (xs := ([a0, a0 / 4294967296, a0 / 1125899906842624, a0 / 144115188075855872, 0, 127, 128, 16383, 16384, 9223372036854775807, 9223372036854775808, 18446744073709551615, 34359738368] : List Int)) (inner := [.int .u64 a0, .int .u64 (a0 / 4294967296), .int .u64 (a0 / 1125899906842624), .int .u64 (a0 / 144115188075855872), .int .u64 0, .int .u64 127, .int .u64 128, .int .u64 16383, .int .u64 16384, .int .u64 9223372036854775807, .int .u64 9223372036854775808, .int .u64 18446744073709551615, .int .u64 34359738368]) (ok := fun _ => True) (okp := fun _ => True) ?hr ?hp (fun _ hk => hk) trivial (Below.refl _ _) (Nat.le_refl _) (by simp) ?_; (case hd => rfl); (case hg => rfl); (case hr => first | (go_simp; done) | (go_simp; rfl)); (case hp => exact (Reps.one (show Kd.M (Kd.int .u64) _ _ _ a0 [.int .u64 a0] from rfl) (Reps.one (show Kd.M (Kd.int .u64) _ _ _ (a0 / 4294967296) [.int .u64 (a0 / 4294967296)] from rfl) (Reps.one (show Kd.M (Kd.int .u64) _ _ _ (a0 / 1125899906842624) [.int .u64 (a0 / 1125899906842624)] from rfl) (Reps.one (show Kd.M (Kd.int .u64) _ _ _ (a0 / 144115188075855872) [.int .u64 (a0 / 144115188075855872)] from rfl) (Reps.one (show Kd.M (Kd.int .u64) _ _ _ 0 [.int .u64 0] from rfl) (Reps.one (show Kd.M (Kd.int .u64) _ _ _ 127 [.int .u64 127] from rfl) (Reps.one (show Kd.M (Kd.int .u64) _ _ _ 128 [.int .u64 128] from rfl) (Reps.one (show Kd.M (Kd.int .u64) _ _ _ 16383 [.int .u64 16383] from rfl) (Reps.one (show Kd.M (Kd.int .u64) _ _ _ 16384 [.int .u64 16384] from rfl) (Reps.one (show Kd.M (Kd.int .u64) _ _ _ 9223372036854775807 [.int .u64 9223372036854775807] from rfl) (Reps.one (show Kd.M (Kd.int .u64) _ _ _ 9223372036854775808 [.int .u64 9223372036854775808] from rfl) (Reps.one (show Kd.M (Kd.int .u64) _ _ _ 18446744073709551615 [.int .u64 18446744073709551615] from rfl) (Reps.one (show Kd.M (Kd.int .u64) _ _ _ 34359738368 [.int .u64 34359738368] from rfl) (Reps.none _ _))))))))))))))); intro v147 w7 ho8 hb hg_ hnew_; clear hg_ hnew_; (first | rw [← Ny146.out] at ho8 | (simp only [Int.reduceToNat] at ho8; rw [← Ny146.out] at ho8)); have n0_ := Aside0.mk (Kd.R_lower ho8 (below_size (by repeat (first | (with_reducible first | exact HB.out | apply below_alloc | apply pw_below_drewN | apply below_drew1) | exact HB.out)))); have n1_ := Aside0.mk (below_step (by repeat (first | (with_reducible first | exact HB.out | apply below_alloc | apply pw_below_drewN | apply below_drew1) | exact HB.out)) hb); clear HB; have HO148 := n0_; have HB := n1_; clear n0_ n1_; clear hb ho8; obtain ⟨Ao9, co9, eo9⟩ := Kd.R_slice HO148.out; subst eo9; have p149 : 0 ≤ ((ji4) : Int) := of_decide_eq_true (by first | (with_reducible assumption) | assumption); have q149 : (ji4) < (y146.length : Int) := of_decide_eq_true (by first | (with_reducible assumption) | assumption); obtain ⟨ad149, e149, hx149_0⟩ := Kd.at_int (Kd.R_reads' HO148.out).2.2 (ji4) p149 q149; cases e149; replace p149 := eq_true p149; replace q149 := eq_true q149))
        go_ret
        exact ⟨by first | rfl | (simp [errW_none, errW_some] <;> rfl) | (simp only [← hji4]; first | rfl | (simp [errW_none, errW_some] <;> rfl)) | (simp [*, errW_none, errW_some] <;> rfl), by repeat (first | (with_reducible first | exact HB.out | apply below_alloc | apply pw_below_drewN | apply below_drew1) | exact HB.out)⟩
      · rw [if_neg c6] at H
        exact absurd H (by simp)
    · rw [if_neg c5] at H
      exact absurd H (by simp)

/-! ### repriseref1_Put: function 6 -/
def repriseref1_Put.l0 : Nat → Int → List Int → Option (List Int)
  | 0, _, _ => none
  | k + 1, x0, x3 => if x0 ≥ 128 then (if x3.length < 140737488355328 then (repriseref1_Put.l0 k (x0 / 128) (x3 ++ [Go.bits .or .u8 ((x0) % 256) 128])) else (none)) else (if x3.length < 140737488355328 then (some (x3 ++ [(x0) % 256])) else (none))
def repriseref1_Put.f (k : Nat) (a0 : Int) : Option (List Int) := repriseref1_Put.l0 k a0 ([] : List Int)
theorem repriseref1_Put.mono_l : ∀ k, (∀ y0 y1, LeO (repriseref1_Put.l0 k y0 y1) (repriseref1_Put.l0 (k + 1) y0 y1))
  | 0 => fun _ _ r h => by simp [repriseref1_Put.l0] at h
  | k + 1 => by
    have ih0 := repriseref1_Put.mono_l k
    · intro y0 y1
      unfold repriseref1_Put.l0
      repeat' first
      | (with_reducible exact ih0 _ _)
      | (with_reducible exact LeO.refl _)
      | (with_reducible exact LeO.none _)
      | (with_reducible refine LeO.ite ?_ ?_)
      | (with_reducible refine LeO.bind ?_ (fun _ => ?_))
      | exact ih0 _ _
      | exact LeO.none _
      | refine LeO.ite ?_ ?_
      | refine LeO.bind ?_ (fun _ => ?_)
theorem repriseref1_Put.mono : ∀ a0 k, LeO (repriseref1_Put.f k a0) (repriseref1_Put.f (k + 1) a0) := by
  intro a0 k
  have ih0 := repriseref1_Put.mono_l k
  unfold repriseref1_Put.f
  repeat' first
      | (with_reducible exact ih0 _ _)
      | (with_reducible exact LeO.refl _)
      | (with_reducible exact LeO.none _)
      | (with_reducible refine LeO.ite ?_ ?_)
      | (with_reducible refine LeO.bind ?_ (fun _ => ?_))
      | exact ih0 _ _
      | exact LeO.none _
      | refine LeO.ite ?_ ?_
      | refine LeO.bind ?_ (fun _ => ?_)
set_option maxHeartbeats 8000000 in
set_option maxRecDepth 100000 in
theorem repriseref1_Put.calls (k : Nat) (a0 : Int) (r : List Int) (w : World) (h : repriseref1_Put.f k a0 = some r) :
    Calls Try.prog 6 #[.int .u64 a0] w fun e w' => ∃ v0_ : Value, e = .returned (v0_) ∧ Kd.R (Kd.int .u8) 5 w' w.heap.size (fun _ => True) v0_ r ∧ Below w.heap.size w w' := by
  have HB := Aside0.mk (Below.refl w.heap.size w)
  have H : (repriseref1_Put.l0 k a0 ([] : List Int)) = some r := h
  clear h
  have H' := Aside0.mk H
  clear H
  go_enter Try.func6, Try.ntmps6
  go_wp2
  go_loopg [0, 3] k (fun kq v0 v3 w' => ∃ (x0_1 : Int) (x3_1 : List Int), v0 = .int .u64 x0_1 ∧ Aside0 (repriseref1_Put.l0 kq x0_1 x3_1 = some r) ∧ Aside0 (kq ≤ k) ∧ Aside0 (Kd.R (Kd.int .u8) 5 w' w.heap.size (fun _ => True) v3 x3_1) ∧ Aside0 (Below w.heap.size w w'))
  case atStart => exact ⟨(a0), (([] : List Int)), (by first | rfl | (simp; done) | (simp [*]; done)), H', ⟨Nat.le_refl _⟩, ⟨by first | exact Kd.R_nil _ _ _ _ _ | exact Kd.N_nil _ _ _ _ _ | exact Kd.V_nil _ _ _ _ _ | exact Kd.Q_nil _ _ _ _ _ | exact Kd.S_nil _ _ _ _ _⟩, ⟨by repeat (first | (with_reducible first | exact HB.out | apply below_alloc | apply pw_below_drewN | apply below_drew1) | exact HB.out)⟩⟩
  case round =>
    clear H'
    obtain ⟨x0_1, x3_1, rfl, HA, HK1, HO_3, HB⟩ := hrel
    cases gk with
    | zero => exact absurd HA.out (by simp [repriseref1_Put.l0])
    | succ k1 =>
      have H := HA.out
      clear HA
      simp only [repriseref1_Put.l0] at H
      by_cases c2 : x0_1 ≥ 128
      · rw [if_pos c2] at H
        have c2b0 : decide (128 ≤ x0_1) = true := decide_eq_true c2
        clear c2
        by_cases c3 : x3_1.length < 140737488355328
        · rw [if_pos c3] at H
          have LMc3 := Aside0.mk c3
          clear c3
          obtain ⟨y150, hy150⟩ : ∃ y_ : List Int, y_ = (x3_1 ++ [Go.bits .or .u8 ((x0_1) % 256) 128]) := ⟨_, rfl⟩
          replace H : (repriseref1_Put.l0 k1 (x0_1 / 128) y150) = some r := by first | (rw [hy150]; with_reducible exact H) | (have H2_ := (Option.bind_some _ _).symm.trans H; rw [hy150]; with_reducible exact H2_) | (have H2_ := (Option.bind_some _ _).symm.trans H; with_reducible exact H2_) | with_reducible exact H | (rw [hy150]; exact H) | exact H
          have Ny150 := Aside0.mk hy150
          clear hy150
          have H' := Aside0.mk H
          clear H
          go_wp2_with (first | ((with_reducible refine gate_builtin (b := .append) (xs := #[.tmp 6, .tmp 10]) rfl ?_); at_builtin; refine Kd.R_append (Kd.int .u8) (w0 := w) w.heap.size rfl (.tmp 6) (.tmp 10) 23 5 (.int .u8 0) 1 rfl Try.underlying23 info5 rfl (by decide) (by omega) u3 x3_1 (Go.bits .or .u8 ((x0_1) % 256) 128) [.int .u8 (Go.bits .or .u8 ((x0_1) % 256) 128)] (fun _ => True) (fun _ => False) rfl rfl ?aP (fun _ hk => hk.elim) ?aF ?aO ?aB ?aS ?aL ?_; (case aP => exact rfl); (case aB => exact (by repeat (first | (with_reducible first | exact HB.out | apply below_alloc | apply pw_below_drewN | apply below_drew1) | exact HB.out))); (case aF => exact (fun _ _ => trivial)); (case aO => exact (by (with_reducible repeat (first | apply Kd.R_alloc | apply Kd.R_drewN | apply Kd.R_drew)); exact HO_3.out)); (case aS => exact (below_size (by repeat (first | (with_reducible first | exact HB.out | apply below_alloc | apply pw_below_drewN | apply below_drew1) | exact HB.out)))); (case aL => have := LMc3.out; omega); intro v151 w4 ho hb hg hat; rw [← Ny150.out] at ho; have n0_ := Aside0.mk (hb); have n1_ := Aside0.mk (ho); clear HB; clear HO_3; have HB := n0_; have HO152 := n1_; clear n0_ n1_; clear ho hb hg hat))
          go_roundg k1
          case measure => have := HK1.out; omega
          case rel => exact ⟨(x0_1 / 128), (y150), (by first | rfl | (simp; done) | (simp [*]; done)), H', ⟨by have := HK1.out; omega⟩, ⟨by (with_reducible repeat (first | apply Kd.R_alloc | apply Kd.R_drewN | apply Kd.R_drew)); exact HO152.out⟩, ⟨by repeat (first | (with_reducible first | exact HB.out | apply below_alloc | apply pw_below_drewN | apply below_drew1) | exact HB.out)⟩⟩
        · rw [if_neg c3] at H
          exact absurd H (by simp)
      · rw [if_neg c2] at H
        have c2b0 : decide (128 ≤ x0_1) = false := decide_eq_false c2
        clear c2
        by_cases c5 : x3_1.length < 140737488355328
        · rw [if_pos c5] at H
          have LMc5 := Aside0.mk c5
          clear c5
          obtain ⟨y153, hy153⟩ : ∃ y_ : List Int, y_ = (x3_1 ++ [(x0_1) % 256]) := ⟨_, rfl⟩
          replace H : (some y153) = some r := by first | (rw [hy153]; with_reducible exact H) | (have H2_ := (Option.bind_some _ _).symm.trans H; rw [hy153]; with_reducible exact H2_) | (have H2_ := (Option.bind_some _ _).symm.trans H; with_reducible exact H2_) | with_reducible exact H | (rw [hy153]; exact H) | exact H
          have Ny153 := Aside0.mk hy153
          clear hy153
          obtain rfl := Option.some.inj H
          go_wp2_with (first | ((with_reducible refine gate_builtin (b := .append) (xs := #[.tmp 14, .tmp 17]) rfl ?_); at_builtin; refine Kd.R_append (Kd.int .u8) (w0 := w) w.heap.size rfl (.tmp 14) (.tmp 17) 23 5 (.int .u8 0) 1 rfl Try.underlying23 info5 rfl (by decide) (by omega) u3 x3_1 ((x0_1) % 256) [.int .u8 ((x0_1) % 256)] (fun _ => True) (fun _ => False) rfl rfl ?aP (fun _ hk => hk.elim) ?aF ?aO ?aB ?aS ?aL ?_; (case aP => exact rfl); (case aB => exact (by repeat (first | (with_reducible first | exact HB.out | apply below_alloc | apply pw_below_drewN | apply below_drew1) | exact HB.out))); (case aF => exact (fun _ _ => trivial)); (case aO => exact (by (with_reducible repeat (first | apply Kd.R_alloc | apply Kd.R_drewN | apply Kd.R_drew)); exact HO_3.out)); (case aS => exact (below_size (by repeat (first | (with_reducible first | exact HB.out | apply below_alloc | apply pw_below_drewN | apply below_drew1) | exact HB.out)))); (case aL => have := LMc5.out; omega); intro v154 w6 ho hb hg hat; rw [← Ny153.out] at ho; have n0_ := Aside0.mk (hb); have n1_ := Aside0.mk (ho); clear HB; clear HO_3; have HB := n0_; have HO155 := n1_; clear n0_ n1_; clear ho hb hg hat))
          go_ret
          exact ⟨_, by first | rfl | (simp [errW_none, errW_some] <;> rfl) | (simp [*, errW_none, errW_some] <;> rfl), by (with_reducible repeat (first | apply Kd.R_alloc | apply Kd.R_drewN | apply Kd.R_drew)); exact HO155.out, by repeat (first | (with_reducible first | exact HB.out | apply below_alloc | apply pw_below_drewN | apply below_drew1) | exact HB.out)⟩
        · rw [if_neg c5] at H
          exact absurd H (by simp)

/-! ### repriseref1_Zag: function 9 -/
def repriseref1_Zag.f (a0 : Int) : Option (Int) := if (Int.tmod a0 2) = 1 then (some (wrap64 ((wrap64 (-(wrap64 (IntKind.u64.wrap (Int.tdiv a0 2))))) - 1))) else (some (wrap64 (IntKind.u64.wrap (Int.tdiv a0 2))))
set_option maxHeartbeats 8000000 in
set_option maxRecDepth 100000 in
theorem repriseref1_Zag.calls (a0 : Int) (r : Int) (w : World) (h : repriseref1_Zag.f a0 = some r) :
    Calls Try.prog 9 #[.int .u64 a0] w fun e w' => e = .returned (.int .i64 r) ∧ Drawn0 w w' := by
  have H : (if (Int.tmod a0 2) = 1 then (some (wrap64 ((wrap64 (-(wrap64 (IntKind.u64.wrap (Int.tdiv a0 2))))) - 1))) else (some (wrap64 (IntKind.u64.wrap (Int.tdiv a0 2))))) = some r := h
  clear h
  by_cases c2 : (Int.tmod a0 2) = 1
  · rw [if_pos c2] at H
    have c2b0 : ((Int.tmod a0 2) == 1) = true := beq_iff_eq.mpr c2
    have c2b1 : ((Int.tmod a0 2) != 1) = false := bne_eq_false_iff_eq.mpr c2
    clear c2
    obtain rfl := Option.some.inj H
    go_enter Try.func9, Try.ntmps9
    go_wp2
    go_ret
    exact ⟨by first | rfl | (simp; done) | (simp [*]; done), by repeat (first | exact Drawn0.refl _ | apply Drawn0.step)⟩
  · rw [if_neg c2] at H
    have c2b0 : ((Int.tmod a0 2) == 1) = false := beq_eq_false_iff_ne.mpr c2
    have c2b1 : ((Int.tmod a0 2) != 1) = true := bne_iff_ne.mpr c2
    obtain rfl := Option.some.inj H
    go_enter Try.func9, Try.ntmps9
    go_wp2
    go_ret
    exact ⟨by first | rfl | (simp; done) | (simp [*]; done), by repeat (first | exact Drawn0.refl _ | apply Drawn0.step)⟩

/-! ### repriseref1_Zig: function 11 -/
def repriseref1_Zig.f (a0 : Int) : Option (Int) := if a0 < 0 then (some (IntKind.u64.wrap ((IntKind.u64.wrap (2 * (IntKind.u64.wrap (wrap64 (-(wrap64 (a0 + 1))))))) + 1))) else (some (IntKind.u64.wrap (2 * (IntKind.u64.wrap (a0)))))
set_option maxHeartbeats 8000000 in
set_option maxRecDepth 100000 in
theorem repriseref1_Zig.calls (a0 : Int) (r : Int) (w : World) (h : repriseref1_Zig.f a0 = some r) :
    Calls Try.prog 11 #[.int .i64 a0] w fun e w' => e = .returned (.int .u64 r) ∧ Drawn0 w w' := by
  have H : (if a0 < 0 then (some (IntKind.u64.wrap ((IntKind.u64.wrap (2 * (IntKind.u64.wrap (wrap64 (-(wrap64 (a0 + 1))))))) + 1))) else (some (IntKind.u64.wrap (2 * (IntKind.u64.wrap (a0)))))) = some r := h
  clear h
  by_cases c2 : a0 < 0
  · rw [if_pos c2] at H
    have c2b0 : decide (a0 < 0) = true := decide_eq_true c2
    clear c2
    obtain rfl := Option.some.inj H
    go_enter Try.func11, Try.ntmps11
    go_wp2
    go_ret
    exact ⟨by first | rfl | (simp; done) | (simp [*]; done), by repeat (first | exact Drawn0.refl _ | apply Drawn0.step)⟩
  · rw [if_neg c2] at H
    have c2b0 : decide (a0 < 0) = false := decide_eq_false c2
    clear c2
    obtain rfl := Option.some.inj H
    go_enter Try.func11, Try.ntmps11
    go_wp2
    go_ret
    exact ⟨by first | rfl | (simp; done) | (simp [*]; done), by repeat (first | exact Drawn0.refl _ | apply Drawn0.step)⟩

end Go.Proofs.Ytghfclocelhpjaa.QLebTells
