/- Lean functions for the Go functions that the law reaches, and proofs that each call comes to just what its Lean function tells; no condition. (Written by a program of this session.) -/
import Derived.Test.YtmaefdeigienjaaQEventReadsx0
namespace Go.Proofs.Ytmaefdeigienjaa.QEventReads
open Go.RowKit Go.Proofs.YtmaefdeigienjaaW.PrintWords Go.Proofs.YtmaefdeigienjaaW.PrintLast Go.Proofs.YtmaefdeigienjaaW.PrintMore
attribute [local go_sem] max2_int min2_int max_two min_two max_three min_three max_four min_four   -- for this text's walks alone
set_option linter.unusedVariables false
set_option linter.unusedSimpArgs false
/-! ### repriseref1_Read: function 38 -/
mutual
def repriseref1_Read.l0 : Nat → List Int → Int → Int → Option (Int × Int × Int)
 | 0, _, _, _ => none
 | k + 1, x0, x5, x6 => if x6 < (x0.length : Int) then (if x6 = 9 then (if 0 ≤ x6 then (repriseref1_Read.j1 k x0 x5 x6 (decide ((rd x0 x6) > 1))) else (none)) else (repriseref1_Read.j1 k x0 x5 x6 false)) else (some (0, 0, 22))
def repriseref1_Read.j1 : Nat → List Int → Int → Int → Bool → Option (Int × Int × Int)
 | 0, _, _, _, _ => none
 | k + 1, x0, x5, x6, x21 => if x21 = true then (some (0, 0, 21)) else (if 0 ≤ x6 then (if x6 < (x0.length : Int) then (if 0 ≤ (wrap64 (7 * x6)) then (if (rd x0 x6) < 128 then (if x6 > 0 then (if (rd x0 x6) = 0 then (some (0, 0, 21)) else (some (Go.bits .or .u64 x5 (shl .u64 (IntKind.u64.wrap (Go.bits .and .u8 (rd x0 x6) 127)) (wrap64 (7 * x6))), wrap64 (x6 + 1), 0))) else (some (Go.bits .or .u64 x5 (shl .u64 (IntKind.u64.wrap (Go.bits .and .u8 (rd x0 x6) 127)) (wrap64 (7 * x6))), wrap64 (x6 + 1), 0))) else (repriseref1_Read.l0 k x0 (Go.bits .or .u64 x5 (shl .u64 (IntKind.u64.wrap (Go.bits .and .u8 (rd x0 x6) 127)) (wrap64 (7 * x6)))) (wrap64 (x6 + 1)))) else (none)) else (none)) else (none))
end
def repriseref1_Read.f (k : Nat) (l0 : List Int) : Option (Int × Int × Int) := repriseref1_Read.l0 k l0 0 0
theorem repriseref1_Read.mono_l : ∀ k, (∀ y0 y1 y2, LeO (repriseref1_Read.l0 k y0 y1 y2) (repriseref1_Read.l0 (k + 1) y0 y1 y2)) ∧ (∀ y0 y1 y2 y3, LeO (repriseref1_Read.j1 k y0 y1 y2 y3) (repriseref1_Read.j1 (k + 1) y0 y1 y2 y3))
 | 0 => ⟨fun _ _ _ r h => by simp [repriseref1_Read.l0] at h, fun _ _ _ _ r h => by simp [repriseref1_Read.j1] at h⟩
 | k + 1 => by
  obtain ⟨ih0, ih1⟩ := repriseref1_Read.mono_l k; refine ⟨?_, ?_⟩
  ·intro y0 y1 y2
   unfold repriseref1_Read.l0
   repeat' first
   | (with_reducible exact ih0 _ _ _)
   | (with_reducible exact ih1 _ _ _ _)
   | (with_reducible exact LeO.refl _)
   | (with_reducible exact LeO.none _)
   | (with_reducible refine LeO.ite ?_ ?_)
   | (with_reducible refine LeO.bind ?_ (fun _ => ?_))
   | exact ih0 _ _ _
   | exact ih1 _ _ _ _
   | exact LeO.none _
   | refine LeO.ite ?_ ?_
   | refine LeO.bind ?_ (fun _ => ?_)
  ·intro y0 y1 y2 y3
   unfold repriseref1_Read.j1
   repeat' first
   | (with_reducible exact ih0 _ _ _)
   | (with_reducible exact ih1 _ _ _ _)
   | (with_reducible exact LeO.refl _)
   | (with_reducible exact LeO.none _)
   | (with_reducible refine LeO.ite ?_ ?_)
   | (with_reducible refine LeO.bind ?_ (fun _ => ?_))
   | exact ih0 _ _ _
   | exact ih1 _ _ _ _
   | exact LeO.none _
   | refine LeO.ite ?_ ?_
   | refine LeO.bind ?_ (fun _ => ?_)
theorem repriseref1_Read.mono : ∀ a0 k, LeO (repriseref1_Read.f k a0) (repriseref1_Read.f (k + 1) a0) := by
 intro a0 k
 obtain ⟨ih0, ih1⟩ := repriseref1_Read.mono_l k; unfold repriseref1_Read.f
 repeat' first
  | (with_reducible exact ih0 _ _ _)
  | (with_reducible exact ih1 _ _ _ _)
  | (with_reducible exact LeO.refl _)
  | (with_reducible exact LeO.none _)
  | (with_reducible refine LeO.ite ?_ ?_)
  | (with_reducible refine LeO.bind ?_ (fun _ => ?_))
  | exact ih0 _ _ _
  | exact ih1 _ _ _ _
  | exact LeO.none _
  | refine LeO.ite ?_ ?_
  | refine LeO.bind ?_ (fun _ => ?_)
set_option maxHeartbeats 8000000 in
set_option maxRecDepth 100000 in
theorem repriseref1_Read.calls (k : Nat) (A0 : Option Addr) (c0 : Nat) (l0 : List Int) (r1 : Int) (r2 : Int) (r3 : Int) (w : World) (hr0 : Kd.C (Kd.int .u8) w A0 l0.length l0) (hc0 : l0.length ≤ c0) (h : repriseref1_Read.f k l0 = some (r1, r2, r3)) :
 Calls Try.prog 38 #[.slice A0 l0.length c0] w fun e w' => e = .returned (.tuple #[.int .u64 r1, .int .i64 r2, .int .i64 r3]) ∧ Drawn0 w w' := by
 have HR0 := Aside0.mk hr0; have HC0 := Aside0.mk hc0; clear hr0 hc0; have H : (repriseref1_Read.l0 k l0 0 0) = some (r1, r2, r3) := h
 clear h; have H' := Aside0.mk H; clear H; go_enter Try.func38, Try.ntmps38
 go_wp2
 go_loopg [5, 6] k (fun kq v5 v6 w' => ∃ (x5_1 : Int) (x6_1 : Int), v5 = .int .u64 x5_1 ∧ v6 = .int .i64 x6_1 ∧ Aside0 (repriseref1_Read.l0 kq l0 x5_1 x6_1 = some (r1, r2, r3)) ∧ Aside0 (kq ≤ k) ∧ Drawn0 w w')
 case atStart => exact ⟨(0), (0), (by first | rfl | (simp; done) | (simp [*]; done)), (by first | rfl | (simp; done) | (simp [*]; done)), H', ⟨Nat.le_refl _⟩, by repeat (first | exact Drawn0.refl _ | apply Drawn0.step)⟩
 case round =>
  clear H'; obtain ⟨x5_1, x6_1, rfl, rfl, HA, HK1, ⟨m1, rfl⟩⟩ := hrel; cases gk with
  | zero => exact absurd HA.out (by simp [repriseref1_Read.l0])
  | succ k1 =>
   have H := HA.out; clear HA; simp only [repriseref1_Read.l0] at H
   by_cases c2 : x6_1 < (l0.length : Int)
   ·rw [if_pos c2] at H
    have c2b0 : decide (x6_1 < (l0.length : Int)) = true := decide_eq_true c2
    clear c2; have HC3 := Aside0.mk H; clear H; go_upto_region 5 with (fail)
    go_cut [21] (fun v21 wc => ∃ (kq : Nat) (x21_2 : Bool), v21 = .bool x21_2 ∧ Aside0 (repriseref1_Read.j1 kq l0 x5_1 x6_1 x21_2 = some (r1, r2, r3)) ∧ Aside0 (kq ≤ k1) ∧ Drawn0 w wc)
    case first =>
     have H := HC3.out; clear HC3; by_cases c4 : x6_1 = 9
     ·rw [if_pos c4] at H
      have c4b0 : (x6_1 == 9) = true := beq_iff_eq.mpr c4
      have c4b1 : (x6_1 != 9) = false := bne_eq_false_iff_eq.mpr c4
      clear c4; (first | rw [c4b0] | (simp only [i64_w, i32_w]; rw [c4b0]) | skip)
      by_cases c5 : 0 ≤ x6_1
      ·rw [if_pos c5] at H
       have c5b0 : decide (0 ≤ x6_1) = true := decide_eq_true c5
       clear c5; have H' := Aside0.mk H; clear H; have p384 : 0 ≤ (x6_1 : Int) := of_decide_eq_true (by first | (with_reducible assumption) | assumption)
       have q384 : x6_1 < (l0.length : Int) := of_decide_eq_true (by first | (with_reducible assumption) | assumption)
       obtain ⟨ad384, e384, hx384_0⟩ := Kd.at_int HR0.out x6_1 p384 q384; cases e384; replace p384 := eq_true p384; replace q384 := eq_true q384; go_wp2
       go_meet
       case rel => exact ⟨_, (decide ((rd l0 x6_1) > 1)), (by first | rfl | (simp; done) | (simp [*]; done)), H', ⟨by have := HK1.out; first | omega | exact Nat.le_refl _⟩, by repeat (first | exact Drawn0.refl _ | apply Drawn0.step)⟩
      ·rw [if_neg c5] at H
       exact absurd H (by simp)
     ·rw [if_neg c4] at H
      have c4b0 : (x6_1 == 9) = false := beq_eq_false_iff_ne.mpr c4
      have c4b1 : (x6_1 != 9) = true := bne_iff_ne.mpr c4
      (first | rw [c4b0] | (simp only [i64_w, i32_w]; rw [c4b0]) | skip)
      have H' := Aside0.mk H; clear H; go_wp2
      go_meet
      case rel => exact ⟨_, (false), (by first | rfl | (simp; done) | (simp [*]; done)), H', ⟨by have := HK1.out; first | omega | exact Nat.le_refl _⟩, by repeat (first | exact Drawn0.refl _ | apply Drawn0.step)⟩
    case rest =>
     clear HC3
     try clear c2
     try clear c2b0
     try clear p2
     try clear c3
     try clear p3
     try clear q3
     try clear hx3
     try clear c4
     try clear c4b0
     try clear c4b1
     try clear c5
     try clear c5b0
     try clear hx384_0
     try clear p384
     try clear q384
     obtain ⟨kq, x21_2, rfl, HA, HJ2, ⟨mc2, rfl⟩⟩ := hcut; cases kq with
     | zero => exact absurd HA.out (by simp [repriseref1_Read.j1])
     | succ kj2 =>
      have H := HA.out; clear HA; simp only [repriseref1_Read.j1] at H
      by_cases c6 : x21_2 = true
      ·subst c6; have H1 : (some (0, 0, 21)) = some (r1, r2, r3) := by rw [if_pos rfl] at H; exact H
       clear H; have H := H1; clear H1; simp only [Option.some.injEq, Prod.mk.injEq] at H
       obtain ⟨rfl, rfl, rfl⟩ := H; go_wp2
       go_ret3
       exact ⟨by first | rfl | (simp; done) | (simp [*]; done), by repeat (first | exact Drawn0.refl _ | apply Drawn0.step)⟩
      ·replace c6 := Bool.eq_false_iff.mpr c6; subst c6; have H1 : (if 0 ≤ x6_1 then (if x6_1 < (l0.length : Int) then (if 0 ≤ (wrap64 (7 * x6_1)) then (if (rd l0 x6_1) < 128 then (if x6_1 > 0 then (if (rd l0 x6_1) = 0 then (some (0, 0, 21)) else (some (Go.bits .or .u64 x5_1 (shl .u64 (IntKind.u64.wrap (Go.bits .and .u8 (rd l0 x6_1) 127)) (wrap64 (7 * x6_1))), wrap64 (x6_1 + 1), 0))) else (some (Go.bits .or .u64 x5_1 (shl .u64 (IntKind.u64.wrap (Go.bits .and .u8 (rd l0 x6_1) 127)) (wrap64 (7 * x6_1))), wrap64 (x6_1 + 1), 0))) else (repriseref1_Read.l0 kj2 l0 (Go.bits .or .u64 x5_1 (shl .u64 (IntKind.u64.wrap (Go.bits .and .u8 (rd l0 x6_1) 127)) (wrap64 (7 * x6_1)))) (wrap64 (x6_1 + 1)))) else (none)) else (none)) else (none)) = some (r1, r2, r3) := by rw [if_neg (show ¬ (false = true) by decide)] at H; exact H
       clear H; have H := H1; clear H1; by_cases c7 : 0 ≤ x6_1
       ·rw [if_pos c7] at H
        have c7b0 : decide (0 ≤ x6_1) = true := decide_eq_true c7
        clear c7; by_cases c8 : x6_1 < (l0.length : Int)
        ·rw [if_pos c8] at H
         have c8b0 : decide (x6_1 < (l0.length : Int)) = true := decide_eq_true c8
         clear c8; obtain ⟨ji9, hji9⟩ : ∃ j_ : Int, (wrap64 (7 * x6_1)) = j_ := ⟨_, rfl⟩
         replace H : (if 0 ≤ (ji9) then (if (rd l0 x6_1) < 128 then (if x6_1 > 0 then (if (rd l0 x6_1) = 0 then (some (0, 0, 21)) else (some (Go.bits .or .u64 x5_1 (shl .u64 (IntKind.u64.wrap (Go.bits .and .u8 (rd l0 x6_1) 127)) (ji9)), wrap64 (x6_1 + 1), 0))) else (some (Go.bits .or .u64 x5_1 (shl .u64 (IntKind.u64.wrap (Go.bits .and .u8 (rd l0 x6_1) 127)) (ji9)), wrap64 (x6_1 + 1), 0))) else (repriseref1_Read.l0 kj2 l0 (Go.bits .or .u64 x5_1 (shl .u64 (IntKind.u64.wrap (Go.bits .and .u8 (rd l0 x6_1) 127)) (ji9))) (wrap64 (x6_1 + 1)))) else (none)) = some (r1, r2, r3) := by first | (rw [hji9] at H; exact H) | (simp only [hji9] at H ⊢; exact H)
         have hji9w : (IntKind.i64.wrap (7 * x6_1)) = ji9 := (i64_w _).trans hji9
         by_cases c10 : 0 ≤ (ji9)
         ·rw [if_pos c10] at H
          have c10b0 := eq_true c10; have c10b1 : decide (0 ≤ (ji9)) = true := decide_eq_true c10
          clear c10; obtain ⟨ji11, hji11⟩ : ∃ j_ : Int, (shl .u64 (IntKind.u64.wrap (Go.bits .and .u8 (rd l0 x6_1) 127)) (ji9)) = j_ := ⟨_, rfl⟩
          replace H : (if (rd l0 x6_1) < 128 then (if x6_1 > 0 then (if (rd l0 x6_1) = 0 then (some (0, 0, 21)) else (some (Go.bits .or .u64 x5_1 (ji11), wrap64 (x6_1 + 1), 0))) else (some (Go.bits .or .u64 x5_1 (ji11), wrap64 (x6_1 + 1), 0))) else (repriseref1_Read.l0 kj2 l0 (Go.bits .or .u64 x5_1 (ji11)) (wrap64 (x6_1 + 1)))) = some (r1, r2, r3) := by first | (rw [hji11] at H; exact H) | (simp only [hji11] at H ⊢; exact H)
          have hji11_ : (IntKind.u64.wrap ((IntKind.u64.wrap (Go.bits .and .u8 (rd l0 x6_1) 127)) * 2 ^ min (ji9).toNat 64)) = ji11 := hji11
          have hji11z : (ji9) ≤ 64 → (IntKind.u64.wrap ((IntKind.u64.wrap (Go.bits .and .u8 (rd l0 x6_1) 127)) * 2 ^ (ji9).toNat)) = ji11 := shl_small hji11
          by_cases c12 : (rd l0 x6_1) < 128
          ·rw [if_pos c12] at H
           have c12b0 : decide ((rd l0 x6_1) < 128) = true := decide_eq_true c12
           clear c12; by_cases c13 : x6_1 > 0
           ·rw [if_pos c13] at H
            have c13b0 : decide (0 < x6_1) = true := decide_eq_true c13
            clear c13; by_cases c14 : (rd l0 x6_1) = 0
            ·rw [if_pos c14] at H
             have c14b0 : ((rd l0 x6_1) == 0) = true := beq_iff_eq.mpr c14
             have c14b1 : ((rd l0 x6_1) != 0) = false := bne_eq_false_iff_eq.mpr c14
             clear c14; simp only [Option.some.injEq, Prod.mk.injEq] at H
             obtain ⟨rfl, rfl, rfl⟩ := H; have p385 : 0 ≤ (x6_1 : Int) := of_decide_eq_true (by first | (with_reducible assumption) | assumption)
             have q385 : x6_1 < (l0.length : Int) := of_decide_eq_true (by first | (with_reducible assumption) | assumption)
             obtain ⟨ad385, e385, hx385_0⟩ := Kd.at_int HR0.out x6_1 p385 q385; cases e385; replace p385 := eq_true p385; replace q385 := eq_true q385; have p386 : 0 ≤ (x6_1 : Int) := of_decide_eq_true (by first | (with_reducible assumption) | assumption)
             have q386 : x6_1 < (l0.length : Int) := of_decide_eq_true (by first | (with_reducible assumption) | assumption)
             obtain ⟨ad386, e386, hx386_0⟩ := Kd.at_int HR0.out x6_1 p386 q386; obtain rfl : ad385 = ad386 := (by injection e386)
             replace p386 := eq_true p386; replace q386 := eq_true q386; have p387 : 0 ≤ (x6_1 : Int) := of_decide_eq_true (by first | (with_reducible assumption) | assumption)
             have q387 : x6_1 < (l0.length : Int) := of_decide_eq_true (by first | (with_reducible assumption) | assumption)
             obtain ⟨ad387, e387, hx387_0⟩ := Kd.at_int HR0.out x6_1 p387 q387; obtain rfl : ad385 = ad387 := (by injection e387)
             replace p387 := eq_true p387; replace q387 := eq_true q387; go_wp2
             go_ret3
             exact ⟨by first | rfl | (simp; done) | (simp only [← hji9, ← hji11] <;> (first | rfl | simp)) | (simp [*]; done), by repeat (first | exact Drawn0.refl _ | apply Drawn0.step)⟩
            ·rw [if_neg c14] at H
             have c14b0 : ((rd l0 x6_1) == 0) = false := beq_eq_false_iff_ne.mpr c14
             have c14b1 : ((rd l0 x6_1) != 0) = true := bne_iff_ne.mpr c14
             simp only [Option.some.injEq, Prod.mk.injEq] at H
             obtain ⟨rfl, rfl, rfl⟩ := H; have p385 : 0 ≤ (x6_1 : Int) := of_decide_eq_true (by first | (with_reducible assumption) | assumption)
             have q385 : x6_1 < (l0.length : Int) := of_decide_eq_true (by first | (with_reducible assumption) | assumption)
             obtain ⟨ad385, e385, hx385_0⟩ := Kd.at_int HR0.out x6_1 p385 q385; cases e385; replace p385 := eq_true p385; replace q385 := eq_true q385; have p386 : 0 ≤ (x6_1 : Int) := of_decide_eq_true (by first | (with_reducible assumption) | assumption)
             have q386 : x6_1 < (l0.length : Int) := of_decide_eq_true (by first | (with_reducible assumption) | assumption)
             obtain ⟨ad386, e386, hx386_0⟩ := Kd.at_int HR0.out x6_1 p386 q386; obtain rfl : ad385 = ad386 := (by injection e386)
             replace p386 := eq_true p386; replace q386 := eq_true q386; have p387 : 0 ≤ (x6_1 : Int) := of_decide_eq_true (by first | (with_reducible assumption) | assumption)
             have q387 : x6_1 < (l0.length : Int) := of_decide_eq_true (by first | (with_reducible assumption) | assumption)
             obtain ⟨ad387, e387, hx387_0⟩ := Kd.at_int HR0.out x6_1 p387 q387; obtain rfl : ad385 = ad387 := (by injection e387)
             replace p387 := eq_true p387; replace q387 := eq_true q387; go_wp2
             go_ret3
             exact ⟨by first | rfl | (simp; done) | (simp only [← hji9, ← hji11] <;> (first | rfl | simp)) | (simp [*]; done), by repeat (first | exact Drawn0.refl _ | apply Drawn0.step)⟩
           ·rw [if_neg c13] at H
            have c13b0 : decide (0 < x6_1) = false := decide_eq_false c13
            clear c13; simp only [Option.some.injEq, Prod.mk.injEq] at H
            obtain ⟨rfl, rfl, rfl⟩ := H; have p385 : 0 ≤ (x6_1 : Int) := of_decide_eq_true (by first | (with_reducible assumption) | assumption)
            have q385 : x6_1 < (l0.length : Int) := of_decide_eq_true (by first | (with_reducible assumption) | assumption)
            obtain ⟨ad385, e385, hx385_0⟩ := Kd.at_int HR0.out x6_1 p385 q385; cases e385; replace p385 := eq_true p385; replace q385 := eq_true q385; have p386 : 0 ≤ (x6_1 : Int) := of_decide_eq_true (by first | (with_reducible assumption) | assumption)
            have q386 : x6_1 < (l0.length : Int) := of_decide_eq_true (by first | (with_reducible assumption) | assumption)
            obtain ⟨ad386, e386, hx386_0⟩ := Kd.at_int HR0.out x6_1 p386 q386; obtain rfl : ad385 = ad386 := (by injection e386)
            replace p386 := eq_true p386; replace q386 := eq_true q386; go_wp2
            go_ret3
            exact ⟨by first | rfl | (simp; done) | (simp only [← hji9, ← hji11] <;> (first | rfl | simp)) | (simp [*]; done), by repeat (first | exact Drawn0.refl _ | apply Drawn0.step)⟩
          ·rw [if_neg c12] at H
           have c12b0 : decide ((rd l0 x6_1) < 128) = false := decide_eq_false c12
           clear c12; have H' := Aside0.mk H; clear H; have p385 : 0 ≤ (x6_1 : Int) := of_decide_eq_true (by first | (with_reducible assumption) | assumption)
           have q385 : x6_1 < (l0.length : Int) := of_decide_eq_true (by first | (with_reducible assumption) | assumption)
           obtain ⟨ad385, e385, hx385_0⟩ := Kd.at_int HR0.out x6_1 p385 q385; cases e385; replace p385 := eq_true p385; replace q385 := eq_true q385; have p386 : 0 ≤ (x6_1 : Int) := of_decide_eq_true (by first | (with_reducible assumption) | assumption)
           have q386 : x6_1 < (l0.length : Int) := of_decide_eq_true (by first | (with_reducible assumption) | assumption)
           obtain ⟨ad386, e386, hx386_0⟩ := Kd.at_int HR0.out x6_1 p386 q386; obtain rfl : ad385 = ad386 := (by injection e386)
           replace p386 := eq_true p386; replace q386 := eq_true q386; go_wp2
           go_roundg kj2
           case measure => have := HK1.out; have := HJ2.out; omega
           case rel => exact ⟨(Go.bits .or .u64 x5_1 (ji11)), (wrap64 (x6_1 + 1)), (by first | rfl | (simp; done) | (simp only [← hji11] <;> (first | rfl | simp)) | (simp [*]; done)), (by first | rfl | (simp; done) | (simp [*]; done)), H', ⟨by have := HK1.out; have := HJ2.out; omega⟩, by repeat (first | exact Drawn0.refl _ | apply Drawn0.step)⟩
         ·rw [if_neg c10] at H
          exact absurd H (by simp)
        ·rw [if_neg c8] at H
         exact absurd H (by simp)
       ·rw [if_neg c7] at H
        exact absurd H (by simp)
   ·rw [if_neg c2] at H
    have c2b0 : decide (x6_1 < (l0.length : Int)) = false := decide_eq_false c2
    clear c2; simp only [Option.some.injEq, Prod.mk.injEq] at H
    obtain ⟨rfl, rfl, rfl⟩ := H; go_wp2
    go_ret3
    exact ⟨by first | rfl | (simp; done) | (simp [*]; done), by repeat (first | exact Drawn0.refl _ | apply Drawn0.step)⟩
/-! ### repriseref1_ReadBytes: function 39 -/
def repriseref1_ReadBytes.f (k : Nat) (l0 : List Int) (a1 : Int) : Option (List Int × Int × Int) := (repriseref1_Read.f k l0).bind fun bt388 => (if bt388.2.2 = 0 then (if bt388.1 > (IntKind.u64.wrap (mx a1 0)) then (some (([] : List Int), 0, 25)) else (if bt388.1 > (IntKind.u64.wrap (wrap64 ((l0.length : Int) - bt388.2.1))) then (some (([] : List Int), 0, 22)) else (if 0 ≤ bt388.2.1 then (if bt388.2.1 ≤ (wrap64 (bt388.2.1 + (wrap64 (bt388.1)))) then (if (wrap64 (bt388.2.1 + (wrap64 (bt388.1)))) ≤ (l0.length : Int) then (some (((l0.take ((wrap64 (bt388.2.1 + (wrap64 (bt388.1)))) : Int).toNat).drop (bt388.2.1 : Int).toNat), wrap64 (bt388.2.1 + (wrap64 (bt388.1))), 0)) else (none)) else (none)) else (none)))) else (some (([] : List Int), 0, bt388.2.2)))
theorem repriseref1_ReadBytes.mono : ∀ a0 a1 k, LeO (repriseref1_ReadBytes.f k a0 a1) (repriseref1_ReadBytes.f (k + 1) a0 a1) := by
 intro a0 a1 k
 unfold repriseref1_ReadBytes.f
 repeat' first
  | (with_reducible exact repriseref1_Read.mono _ _)
  | (with_reducible exact LeO.refl _)
  | (with_reducible exact LeO.none _)
  | (with_reducible refine LeO.ite ?_ ?_)
  | (with_reducible refine LeO.bind ?_ (fun _ => ?_))
  | exact repriseref1_Read.mono _ _
  | exact LeO.none _
  | refine LeO.ite ?_ ?_
  | refine LeO.bind ?_ (fun _ => ?_)
set_option maxHeartbeats 8000000 in
set_option maxRecDepth 100000 in
theorem repriseref1_ReadBytes.calls (k : Nat) (P0_ : Nat → Prop) (A0 : Option Addr) (c0 : Nat) (l0 : List Int) (a1 : Int) (r1 : List Int) (r2 : Int) (r3 : Int) (w : World) (hs0 : Kd.V (Kd.int .u8) 5 w w.heap.size (fun k_ => P0_ k_) (.slice A0 l0.length c0) l0) (h : repriseref1_ReadBytes.f k l0 a1 = some (r1, r2, r3)) :
 Calls Try.prog 39 #[.slice A0 l0.length c0, .int .i64 a1] w fun e w' => ∃ v0_ : Value, e = .returned (.tuple #[v0_, .int .i64 r2, .int .i64 r3]) ∧ Kd.V (Kd.int .u8) 5 w' w.heap.size (fun k_ => (P0_ k_ ∨ w.heap.size ≤ k_)) v0_ r1 ∧ Below w.heap.size w w' := by
 have HO0 := Aside0.mk (show Kd.V (Kd.int .u8) 5 w w.heap.size (fun k_ => (P0_ k_ ∨ w.heap.size ≤ k_)) (.slice A0 l0.length c0) l0 from Kd.V_mono hs0 (fun k_ hk => .inl hk))
 have HB := Aside0.mk (Below.refl w.heap.size w)
 have H : ((repriseref1_Read.f k l0).bind fun bt388 => (if bt388.2.2 = 0 then (if bt388.1 > (IntKind.u64.wrap (mx a1 0)) then (some (([] : List Int), 0, 25)) else (if bt388.1 > (IntKind.u64.wrap (wrap64 ((l0.length : Int) - bt388.2.1))) then (some (([] : List Int), 0, 22)) else (if 0 ≤ bt388.2.1 then (if bt388.2.1 ≤ (wrap64 (bt388.2.1 + (wrap64 (bt388.1)))) then (if (wrap64 (bt388.2.1 + (wrap64 (bt388.1)))) ≤ (l0.length : Int) then (some (((l0.take ((wrap64 (bt388.2.1 + (wrap64 (bt388.1)))) : Int).toNat).drop (bt388.2.1 : Int).toNat), wrap64 (bt388.2.1 + (wrap64 (bt388.1))), 0)) else (none)) else (none)) else (none)))) else (some (([] : List Int), 0, bt388.2.2)))) = some (r1, r2, r3) := h
 clear h; replace H := Option.bind_eq_some_iff.mp H; obtain ⟨⟨t388, t389, t390⟩, A30, H⟩ := H; replace H : (if t390 = 0 then (if t388 > (IntKind.u64.wrap (mx a1 0)) then (some (([] : List Int), 0, 25)) else (if t388 > (IntKind.u64.wrap (wrap64 ((l0.length : Int) - t389))) then (some (([] : List Int), 0, 22)) else (if 0 ≤ t389 then (if t389 ≤ (wrap64 (t389 + (wrap64 (t388)))) then (if (wrap64 (t389 + (wrap64 (t388)))) ≤ (l0.length : Int) then (some (((l0.take ((wrap64 (t389 + (wrap64 (t388)))) : Int).toNat).drop (t389 : Int).toNat), wrap64 (t389 + (wrap64 (t388))), 0)) else (none)) else (none)) else (none)))) else (some (([] : List Int), 0, t390))) = some (r1, r2, r3) := H
 have A3 := Aside0.mk A30; clear A30; by_cases c4 : t390 = 0
 ·rw [if_pos c4] at H
  have c4b0 : (t390 == 0) = true := beq_iff_eq.mpr c4
  have c4b1 : (t390 != 0) = false := bne_eq_false_iff_eq.mpr c4
  clear c4; obtain ⟨ji5, hji5⟩ : ∃ j_ : Int, (mx a1 0) = j_ := ⟨_, rfl⟩
  replace H : (if t388 > (IntKind.u64.wrap (ji5)) then (some (([] : List Int), 0, 25)) else (if t388 > (IntKind.u64.wrap (wrap64 ((l0.length : Int) - t389))) then (some (([] : List Int), 0, 22)) else (if 0 ≤ t389 then (if t389 ≤ (wrap64 (t389 + (wrap64 (t388)))) then (if (wrap64 (t389 + (wrap64 (t388)))) ≤ (l0.length : Int) then (some (((l0.take ((wrap64 (t389 + (wrap64 (t388)))) : Int).toNat).drop (t389 : Int).toNat), wrap64 (t389 + (wrap64 (t388))), 0)) else (none)) else (none)) else (none)))) = some (r1, r2, r3) := by first | (rw [hji5] at H; exact H) | (simp only [hji5] at H ⊢; exact H)
  (try rw [hji5] at A3)
  (try (have hji5l : 0 ≤ ji5 := by (rw [← hji5]; unfold mx; (repeat' split) <;> omega)))
  (try (have hji5m : 0 ≤ ji5 := by omega))
  have hji5_ : (if a1 < 0 then 0 else a1) = ji5 := hji5
  by_cases c6 : t388 > (IntKind.u64.wrap (ji5))
  ·rw [if_pos c6] at H
   have c6b0 : decide ((IntKind.u64.wrap (ji5)) < t388) = true := decide_eq_true c6
   clear c6; simp only [Option.some.injEq, Prod.mk.injEq] at H
   obtain ⟨rfl, rfl, rfl⟩ := H; go_enter Try.func39, Try.ntmps39
   go_wp2_with (first | ((with_reducible refine gate_callee (f := 38) rfl ?_); refine goesL_ (some 12) rfl rfl Try.func38 (by kernel_rfl) rfl #[.slice A0 l0.length c0] rfl (by (try simp only [List.map_toArray, List.map_cons, List.map_nil]); first | done | rfl | (simp only [List.length_drop, List.length_take]; rfl)) ?_; (with_reducible refine (repriseref1_Read.calls k _ _ l0 t388 t389 t390 _ ?side1 ?side2 A3.out).mono ?_); (case side1 => repeat (first | exact (Kd.V_reads' HO0.out).2.2 | (with_reducible refine Kd.C_alloc ?_ _) | (with_reducible refine Kd.C_drewN ?_ _) | (with_reducible refine Kd.C_drew ?_))); (case side2 => exact (Kd.V_reads' HO0.out).2.1); rintro e w' ⟨rfl, ⟨nd, rfl⟩⟩; refine ⟨_, rfl, ?_⟩))
   go_ret3
   exact ⟨_, by first | rfl | (simp [errW_none, errW_some] <;> rfl) | (simp only [← hji5]; first | rfl | (simp [errW_none, errW_some] <;> rfl)) | (simp [*, errW_none, errW_some] <;> rfl), Kd.V_mono (Kd.R_V (Kd.R_nil _ _ _ 0 (fun _ => False))) (fun _ hk => hk.elim), by repeat (first | (with_reducible first | exact HB.out | apply below_alloc | apply pw_below_drewN | apply below_drew1) | exact HB.out)⟩
  ·rw [if_neg c6] at H
   have c6b0 : decide ((IntKind.u64.wrap (ji5)) < t388) = false := decide_eq_false c6
   clear c6; by_cases c7 : t388 > (IntKind.u64.wrap (wrap64 ((l0.length : Int) - t389)))
   ·rw [if_pos c7] at H
    have c7b0 : decide ((IntKind.u64.wrap (wrap64 ((l0.length : Int) - t389))) < t388) = true := decide_eq_true c7
    clear c7; simp only [Option.some.injEq, Prod.mk.injEq] at H
    obtain ⟨rfl, rfl, rfl⟩ := H; go_enter Try.func39, Try.ntmps39
    go_wp2_with (first | ((with_reducible refine gate_callee (f := 38) rfl ?_); refine goesL_ (some 12) rfl rfl Try.func38 (by kernel_rfl) rfl #[.slice A0 l0.length c0] rfl (by (try simp only [List.map_toArray, List.map_cons, List.map_nil]); first | done | rfl | (simp only [List.length_drop, List.length_take]; rfl)) ?_; (with_reducible refine (repriseref1_Read.calls k _ _ l0 t388 t389 t390 _ ?side1 ?side2 A3.out).mono ?_); (case side1 => repeat (first | exact (Kd.V_reads' HO0.out).2.2 | (with_reducible refine Kd.C_alloc ?_ _) | (with_reducible refine Kd.C_drewN ?_ _) | (with_reducible refine Kd.C_drew ?_))); (case side2 => exact (Kd.V_reads' HO0.out).2.1); rintro e w' ⟨rfl, ⟨nd, rfl⟩⟩; refine ⟨_, rfl, ?_⟩))
    go_ret3
    exact ⟨_, by first | rfl | (simp [errW_none, errW_some] <;> rfl) | (simp only [← hji5]; first | rfl | (simp [errW_none, errW_some] <;> rfl)) | (simp [*, errW_none, errW_some] <;> rfl), Kd.V_mono (Kd.R_V (Kd.R_nil _ _ _ 0 (fun _ => False))) (fun _ hk => hk.elim), by repeat (first | (with_reducible first | exact HB.out | apply below_alloc | apply pw_below_drewN | apply below_drew1) | exact HB.out)⟩
   ·rw [if_neg c7] at H
    have c7b0 : decide ((IntKind.u64.wrap (wrap64 ((l0.length : Int) - t389))) < t388) = false := decide_eq_false c7
    clear c7; by_cases c8 : 0 ≤ t389
    ·rw [if_pos c8] at H
     have c8b0 := eq_true c8; have c8b1 : decide (0 ≤ t389) = true := decide_eq_true c8
     clear c8; by_cases c9 : t389 ≤ (wrap64 (t389 + (wrap64 (t388))))
     ·rw [if_pos c9] at H
      have c9b0 := eq_true c9; have c9b1 : decide (t389 ≤ (wrap64 (t389 + (wrap64 (t388))))) = true := decide_eq_true c9
      by_cases c10 : (wrap64 (t389 + (wrap64 (t388)))) ≤ (l0.length : Int)
      ·rw [if_pos c10] at H
       have c10b0 := eq_true c10; have c10b1 : decide ((wrap64 (t389 + (wrap64 (t388)))) ≤ (l0.length : Int)) = true := decide_eq_true c10
       obtain ⟨y391, hy391⟩ : ∃ y_ : List Int, y_ = ((l0.take ((wrap64 (t389 + (wrap64 (t388)))) : Int).toNat).drop (t389 : Int).toNat) := ⟨_, rfl⟩
       replace H : (some (y391, wrap64 (t389 + (wrap64 (t388))), 0)) = some (r1, r2, r3) := by first | (rw [hy391]; with_reducible exact H) | (have H2_ := (Option.bind_some _ _).symm.trans H; rw [hy391]; with_reducible exact H2_) | (have H2_ := (Option.bind_some _ _).symm.trans H; with_reducible exact H2_) | with_reducible exact H | (rw [hy391]; exact H) | exact H
       have Ny391 := Aside0.mk hy391; clear hy391; simp only [Option.some.injEq, Prod.mk.injEq] at H
       obtain ⟨rfl, rfl, rfl⟩ := H; go_enter Try.func39, Try.ntmps39
       go_wp2_with (first | ((with_reducible refine gate_callee (f := 38) rfl ?_); refine goesL_ (some 12) rfl rfl Try.func38 (by kernel_rfl) rfl #[.slice A0 l0.length c0] rfl (by (try simp only [List.map_toArray, List.map_cons, List.map_nil]); first | done | rfl | (simp only [List.length_drop, List.length_take]; rfl)) ?_; (with_reducible refine (repriseref1_Read.calls k _ _ l0 t388 t389 t390 _ ?side1 ?side2 A3.out).mono ?_); (case side1 => repeat (first | exact (Kd.V_reads' HO0.out).2.2 | (with_reducible refine Kd.C_alloc ?_ _) | (with_reducible refine Kd.C_drewN ?_ _) | (with_reducible refine Kd.C_drew ?_))); (case side2 => exact (Kd.V_reads' HO0.out).2.1); rintro e w' ⟨rfl, ⟨nd, rfl⟩⟩; refine ⟨_, rfl, ?_⟩; have q11 : ((wrap64 (t389 + (wrap64 (t388)))) : Int) ≤ ((l0.length : Int) : Int) := of_decide_eq_true (by first | (with_reducible assumption) | assumption); obtain ⟨i011, hi011, _, hsz11, _⟩ := info_parts info5; have hroom11 : l0.length ≤ c0 := (Kd.V_reads' HO0.out).2.1; have hC11 : Kd.F (Kd.int .u8) _ _ A0 l0.length l0 := (Kd.V_at (base := w.heap.size) HO0.out).2.2; have ql11 : (t389 : Int) ≤ ((wrap64 (t389 + (wrap64 (t388)))) : Int) := of_decide_eq_true (by first | (with_reducible assumption) | assumption); have q011 : (0 : Int) ≤ (t389 : Int) := of_decide_eq_true (by first | (with_reducible assumption) | assumption); have hcut11 := cut_mid (P := Try.prog) 22 5 .i64 .i64 Try.underlying22 hi011 1 hsz11 A0 l0.length c0 t389 (wrap64 (t389 + (wrap64 (t388)))) q011 ql11 q11 hroom11; have hr11 := Kd.F_mid (lo := (t389 : Int).toNat) (hi := ((wrap64 (t389 + (wrap64 (t388)))) : Int).toNat) (c := c0) hC11 (by omega) (by omega) hroom11; obtain ⟨A11, hA11⟩ : ∃ Az_, Az_ = (if c0 = (t389 : Int).toNat then A0 else (A0 : Option Addr).map (·.add ((t389 : Int).toNat * 1))) := ⟨_, rfl⟩; obtain ⟨c11, hc11⟩ : ∃ cz_, cz_ = c0 - (t389 : Int).toNat := ⟨_, rfl⟩; have hy11 : y391.length = ((wrap64 (t389 + (wrap64 (t388)))) : Int).toNat - (t389 : Int).toNat := (by rw [Ny391.out, List.length_drop, List.length_take] <;> omega); rw [show ((l0).take ((wrap64 (t389 + (wrap64 (t388)))) : Int).toNat).drop (t389 : Int).toNat = y391 from Ny391.out.symm] at hr11; replace hr11 : Kd.F (Kd.int .u8) _ _ A11 y391.length y391 := (by rw [hA11]; exact hr11); rw [← hy11, ← hA11, ← hc11] at hcut11; have HO395 := Aside0.mk (show Kd.V (Kd.int .u8) 5 _ w.heap.size _ (.slice A11 y391.length c11) y391 from Kd.V_mk (by rw [hy11, hc11]; exact Nat.sub_le_sub_right (Nat.le_trans (by omega) hroom11) _) hr11); have HC395 := Aside0.mk (show y391.length ≤ c11 from by rw [hy11, hc11]; exact Nat.sub_le_sub_right (Nat.le_trans (by omega) hroom11) _); clear hr11 hC11 hroom11 hi011 hsz11 hc11; have KY11 := Aside0.mk hy11; have KA11 := Aside0.mk hA11; clear hy11 hA11; replace q11 := eq_true q11))
       go_ret3
       exact ⟨_, by first | rfl | (simp [errW_none, errW_some] <;> rfl) | (simp only [← hji5]; first | rfl | (simp [errW_none, errW_some] <;> rfl)) | (simp [*, errW_none, errW_some] <;> rfl), by (with_reducible repeat (first | apply Kd.V_alloc | apply Kd.V_drewN | apply Kd.V_drew)); exact HO395.out, by repeat (first | (with_reducible first | exact HB.out | apply below_alloc | apply pw_below_drewN | apply below_drew1) | exact HB.out)⟩
      ·rw [if_neg c10] at H
       exact absurd H (by simp)
     ·rw [if_neg c9] at H
      exact absurd H (by simp)
    ·rw [if_neg c8] at H
     exact absurd H (by simp)
 ·rw [if_neg c4] at H
  have c4b0 : (t390 == 0) = false := beq_eq_false_iff_ne.mpr c4
  have c4b1 : (t390 != 0) = true := bne_iff_ne.mpr c4
  simp only [Option.some.injEq, Prod.mk.injEq] at H
  obtain ⟨rfl, rfl, rfl⟩ := H; go_enter Try.func39, Try.ntmps39
  go_wp2_with (first | ((with_reducible refine gate_callee (f := 38) rfl ?_); refine goesL_ (some 12) rfl rfl Try.func38 (by kernel_rfl) rfl #[.slice A0 l0.length c0] rfl (by (try simp only [List.map_toArray, List.map_cons, List.map_nil]); first | done | rfl | (simp only [List.length_drop, List.length_take]; rfl)) ?_; (with_reducible refine (repriseref1_Read.calls k _ _ l0 t388 t389 t390 _ ?side1 ?side2 A3.out).mono ?_); (case side1 => repeat (first | exact (Kd.V_reads' HO0.out).2.2 | (with_reducible refine Kd.C_alloc ?_ _) | (with_reducible refine Kd.C_drewN ?_ _) | (with_reducible refine Kd.C_drew ?_))); (case side2 => exact (Kd.V_reads' HO0.out).2.1); rintro e w' ⟨rfl, ⟨nd, rfl⟩⟩; refine ⟨_, rfl, ?_⟩))
  go_ret3
  exact ⟨_, by first | rfl | (simp [errW_none, errW_some] <;> rfl) | (simp [*, errW_none, errW_some] <;> rfl), Kd.V_mono (Kd.R_V (Kd.R_nil _ _ _ 0 (fun _ => False))) (fun _ hk => hk.elim), by repeat (first | (with_reducible first | exact HB.out | apply below_alloc | apply pw_below_drewN | apply below_drew1) | exact HB.out)⟩
end Go.Proofs.Ytmaefdeigienjaa.QEventReads
