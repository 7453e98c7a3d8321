/- Lean functions for the Go functions that the law reaches, and proofs that each call comes to just what its Lean function tells; no condition. (Written by a program of this session.) -/
import Derived.Test.YtoaeibhicbgknaaQSearchPlaysx0
namespace Go.Proofs.Ytoaeibhicbgknaa.QSearchPlays
open Go.RowKit Go.Proofs.YtoaeibhicbgknaaW.PrintWords Go.Proofs.YtoaeibhicbgknaaW.PrintLast Go.Proofs.YtoaeibhicbgknaaW.PrintMore
attribute [local go_sem] max2_int min2_int max_two min_two max_three min_three max_four min_four   -- for this text's walks alone
set_option linter.unusedVariables false
set_option linter.unusedSimpArgs false

/-! ### repriseref1_Begins: function 38 -/
mutual
def repriseref1_Begins.j0 : Nat → List Int → Bool → Option (Bool)
  | 0, _, _ => none
  | k + 1, x0, x26 => if x26 = true then (some false) else (if 0 < (x0.length : Int) then (if (rd x0 0) ≥ 224 then (repriseref1_Begins.j1 k x0 3) else (repriseref1_Begins.j1 k x0 2)) else (none))
def repriseref1_Begins.j1 : Nat → List Int → Int → Option (Bool)
  | 0, _, _ => none
  | k + 1, x0, x3 => if 0 < (x0.length : Int) then (if (rd x0 0) ≥ 240 then (repriseref1_Begins.j2 k x0 4) else (repriseref1_Begins.j2 k x0 x3)) else (none)
def repriseref1_Begins.j2 : Nat → List Int → Int → Option (Bool)
  | 0, _, _ => none
  | k + 1, x0, x3 => if (x0.length : Int) ≥ x3 then (some false) else (repriseref1_Begins.l0 k x0 1)
def repriseref1_Begins.l0 : Nat → List Int → Int → Option (Bool)
  | 0, _, _ => none
  | k + 1, x0, x4 => if x4 < (x0.length : Int) then (if 0 ≤ x4 then (if (Go.bits .and .u8 (rd x0 x4) 192) = 128 then (repriseref1_Begins.l0 k x0 (wrap64 (x4 + 1))) else (some false)) else (none)) else (if (x0.length : Int) = 1 then (some true) else (if 0 < (x0.length : Int) then (if (rd x0 0) = 224 then (if 1 < (x0.length : Int) then (if (rd x0 1) ≥ 160 then (some (decide ((rd x0 1) ≤ 191))) else (some false)) else (none)) else (if (rd x0 0) = 237 then (if 1 < (x0.length : Int) then (if (rd x0 1) ≥ 128 then (some (decide ((rd x0 1) ≤ 159))) else (some false)) else (none)) else (if (rd x0 0) = 240 then (if 1 < (x0.length : Int) then (if (rd x0 1) ≥ 144 then (some (decide ((rd x0 1) ≤ 191))) else (some false)) else (none)) else (if (rd x0 0) = 244 then (if 1 < (x0.length : Int) then (if (rd x0 1) ≥ 128 then (some (decide ((rd x0 1) ≤ 143))) else (some false)) else (none)) else (if 1 < (x0.length : Int) then (if (rd x0 1) ≥ 128 then (some (decide ((rd x0 1) ≤ 191))) else (some false)) else (none)))))) else (none)))
end
def repriseref1_Begins.f (k : Nat) (l0 : List Int) : Option (Bool) := if (l0.length : Int) < 1 then (repriseref1_Begins.j0 k l0 true) else (if (l0.length : Int) > 3 then (repriseref1_Begins.j0 k l0 true) else (if 0 < (l0.length : Int) then (if (rd l0 0) < 194 then (repriseref1_Begins.j0 k l0 true) else (repriseref1_Begins.j0 k l0 (decide ((rd l0 0) > 244)))) else (none)))
theorem repriseref1_Begins.mono_l : ∀ k, (∀ y0 y1, LeO (repriseref1_Begins.j0 k y0 y1) (repriseref1_Begins.j0 (k + 1) y0 y1)) ∧ (∀ y0 y1, LeO (repriseref1_Begins.j1 k y0 y1) (repriseref1_Begins.j1 (k + 1) y0 y1)) ∧ (∀ y0 y1, LeO (repriseref1_Begins.j2 k y0 y1) (repriseref1_Begins.j2 (k + 1) y0 y1)) ∧ (∀ y0 y1, LeO (repriseref1_Begins.l0 k y0 y1) (repriseref1_Begins.l0 (k + 1) y0 y1))
  | 0 => ⟨fun _ _ r h => by simp [repriseref1_Begins.j0] at h, fun _ _ r h => by simp [repriseref1_Begins.j1] at h, fun _ _ r h => by simp [repriseref1_Begins.j2] at h, fun _ _ r h => by simp [repriseref1_Begins.l0] at h⟩
  | k + 1 => by
    obtain ⟨ih0, ih1, ih2, ih3⟩ := repriseref1_Begins.mono_l k
    refine ⟨?_, ?_, ?_, ?_⟩
    · intro y0 y1
      unfold repriseref1_Begins.j0
      repeat' first
      | (with_reducible exact ih0 _ _)
      | (with_reducible exact ih1 _ _)
      | (with_reducible exact ih2 _ _)
      | (with_reducible exact ih3 _ _)
      | (with_reducible exact LeO.refl _)
      | (with_reducible exact LeO.none _)
      | (with_reducible refine LeO.ite ?_ ?_)
      | (with_reducible refine LeO.bind ?_ (fun _ => ?_))
      | exact ih0 _ _
      | exact ih1 _ _
      | exact ih2 _ _
      | exact ih3 _ _
      | exact LeO.none _
      | refine LeO.ite ?_ ?_
      | refine LeO.bind ?_ (fun _ => ?_)
    · intro y0 y1
      unfold repriseref1_Begins.j1
      repeat' first
      | (with_reducible exact ih0 _ _)
      | (with_reducible exact ih1 _ _)
      | (with_reducible exact ih2 _ _)
      | (with_reducible exact ih3 _ _)
      | (with_reducible exact LeO.refl _)
      | (with_reducible exact LeO.none _)
      | (with_reducible refine LeO.ite ?_ ?_)
      | (with_reducible refine LeO.bind ?_ (fun _ => ?_))
      | exact ih0 _ _
      | exact ih1 _ _
      | exact ih2 _ _
      | exact ih3 _ _
      | exact LeO.none _
      | refine LeO.ite ?_ ?_
      | refine LeO.bind ?_ (fun _ => ?_)
    · intro y0 y1
      unfold repriseref1_Begins.j2
      repeat' first
      | (with_reducible exact ih0 _ _)
      | (with_reducible exact ih1 _ _)
      | (with_reducible exact ih2 _ _)
      | (with_reducible exact ih3 _ _)
      | (with_reducible exact LeO.refl _)
      | (with_reducible exact LeO.none _)
      | (with_reducible refine LeO.ite ?_ ?_)
      | (with_reducible refine LeO.bind ?_ (fun _ => ?_))
      | exact ih0 _ _
      | exact ih1 _ _
      | exact ih2 _ _
      | exact ih3 _ _
      | exact LeO.none _
      | refine LeO.ite ?_ ?_
      | refine LeO.bind ?_ (fun _ => ?_)
    · intro y0 y1
      unfold repriseref1_Begins.l0
      repeat' first
      | (with_reducible exact ih0 _ _)
      | (with_reducible exact ih1 _ _)
      | (with_reducible exact ih2 _ _)
      | (with_reducible exact ih3 _ _)
      | (with_reducible exact LeO.refl _)
      | (with_reducible exact LeO.none _)
      | (with_reducible refine LeO.ite ?_ ?_)
      | (with_reducible refine LeO.bind ?_ (fun _ => ?_))
      | exact ih0 _ _
      | exact ih1 _ _
      | exact ih2 _ _
      | exact ih3 _ _
      | exact LeO.none _
      | refine LeO.ite ?_ ?_
      | refine LeO.bind ?_ (fun _ => ?_)
theorem repriseref1_Begins.mono : ∀ a0 k, LeO (repriseref1_Begins.f k a0) (repriseref1_Begins.f (k + 1) a0) := by
  intro a0 k
  obtain ⟨ih0, ih1, ih2, ih3⟩ := repriseref1_Begins.mono_l k
  unfold repriseref1_Begins.f
  repeat' first
      | (with_reducible exact ih0 _ _)
      | (with_reducible exact ih1 _ _)
      | (with_reducible exact ih2 _ _)
      | (with_reducible exact ih3 _ _)
      | (with_reducible exact LeO.refl _)
      | (with_reducible exact LeO.none _)
      | (with_reducible refine LeO.ite ?_ ?_)
      | (with_reducible refine LeO.bind ?_ (fun _ => ?_))
      | exact ih0 _ _
      | exact ih1 _ _
      | exact ih2 _ _
      | exact ih3 _ _
      | exact LeO.none _
      | refine LeO.ite ?_ ?_
      | refine LeO.bind ?_ (fun _ => ?_)
set_option maxHeartbeats 8000000 in
set_option maxRecDepth 100000 in
theorem repriseref1_Begins.calls (k : Nat) (A0 : Option Addr) (c0 : Nat) (l0 : List Int) (r : Bool) (w : World) (hr0 : Kd.C (Kd.int .u8) w A0 l0.length l0) (hc0 : l0.length ≤ c0) (h : repriseref1_Begins.f k l0 = some r) :
    Calls Try.prog 38 #[.slice A0 l0.length c0] w fun e w' => e = .returned (.bool r) ∧ Drawn0 w w' := by
  have HR0 := Aside0.mk hr0
  have HC0 := Aside0.mk hc0
  clear hr0 hc0
  have H : (if (l0.length : Int) < 1 then (repriseref1_Begins.j0 k l0 true) else (if (l0.length : Int) > 3 then (repriseref1_Begins.j0 k l0 true) else (if 0 < (l0.length : Int) then (if (rd l0 0) < 194 then (repriseref1_Begins.j0 k l0 true) else (repriseref1_Begins.j0 k l0 (decide ((rd l0 0) > 244)))) else (none)))) = some r := h
  clear h
  have HC2 := Aside0.mk H
  clear H
  go_enter Try.func38, Try.ntmps38
  go_upto_region 1 with (fail)
  go_cut [26] (fun v26 wc => ∃ (kq : Nat) (x26_1 : Bool), v26 = .bool x26_1 ∧ Aside0 (repriseref1_Begins.j0 kq l0 x26_1 = some r) ∧ Aside0 (kq ≤ k) ∧ Drawn0 w wc)
  case first =>
    have H := HC2.out
    clear HC2
    by_cases c3 : (l0.length : Int) < 1
    · rw [if_pos c3] at H
      have c3b0 : decide ((l0.length : Int) < 1) = true := decide_eq_true c3
      have c3b1 : decide (l0.length < 1) = true := decide_eq_true (by omega)
      clear c3
      (first | rw [c3b0] | (simp only [i64_w, i32_w]; rw [c3b0]) | skip)
      have H' := Aside0.mk H
      clear H
      go_wp2
      go_meet
      case rel => exact ⟨_, (true), (by first | rfl | (simp; done) | (simp [*]; done)), H', ⟨by first | omega | exact Nat.le_refl _⟩, by repeat (first | exact Drawn0.refl _ | apply Drawn0.step)⟩
    · rw [if_neg c3] at H
      have c3b0 : decide ((l0.length : Int) < 1) = false := decide_eq_false c3
      have c3b1 : decide (l0.length < 1) = false := decide_eq_false (by omega)
      clear c3
      (first | rw [c3b0] | (simp only [i64_w, i32_w]; rw [c3b0]) | skip)
      by_cases c4 : (l0.length : Int) > 3
      · rw [if_pos c4] at H
        have c4b0 : decide (3 < (l0.length : Int)) = true := decide_eq_true c4
        have c4b1 : decide (3 < l0.length) = true := decide_eq_true (by omega)
        clear c4
        have H' := Aside0.mk H
        clear H
        go_wp2
        go_meet
        case rel => exact ⟨_, (true), (by first | rfl | (simp; done) | (simp [*]; done)), H', ⟨by first | omega | exact Nat.le_refl _⟩, by repeat (first | exact Drawn0.refl _ | apply Drawn0.step)⟩
      · rw [if_neg c4] at H
        have c4b0 : decide (3 < (l0.length : Int)) = false := decide_eq_false c4
        have c4b1 : decide (3 < l0.length) = false := decide_eq_false (by omega)
        clear c4
        by_cases c5 : 0 < (l0.length : Int)
        · rw [if_pos c5] at H
          have c5b0 : decide (0 < (l0.length : Int)) = true := decide_eq_true c5
          have c5b1 : decide (0 < l0.length) = true := decide_eq_true (by omega)
          clear c5
          by_cases c6 : (rd l0 0) < 194
          · rw [if_pos c6] at H
            have c6b0 : decide ((rd l0 0) < 194) = true := decide_eq_true c6
            clear c6
            have H' := Aside0.mk H
            clear H
            have p231 : 0 ≤ (0 : Int) := (by omega)
            have q231 : 0 < (l0.length : Int) := of_decide_eq_true (by first | (with_reducible assumption) | assumption)
            obtain ⟨ad231, e231, hx231_0⟩ := Kd.at_int HR0.out 0 p231 q231
            cases e231
            have qi231 : (0 < l0.length) = True := eq_true (by omega)
            (try rw [show ((0 : Int)).toNat = 0 from rfl] at hx231_0)
            (try rw [Addr.add_zero'] at hx231_0)
            replace p231 := eq_true p231
            replace q231 := eq_true q231
            go_wp2
            go_meet
            case rel => exact ⟨_, (true), (by first | rfl | (simp; done) | (simp [*]; done)), H', ⟨by first | omega | exact Nat.le_refl _⟩, by repeat (first | exact Drawn0.refl _ | apply Drawn0.step)⟩
          · rw [if_neg c6] at H
            have c6b0 : decide ((rd l0 0) < 194) = false := decide_eq_false c6
            clear c6
            have H' := Aside0.mk H
            clear H
            have p231 : 0 ≤ (0 : Int) := (by omega)
            have q231 : 0 < (l0.length : Int) := of_decide_eq_true (by first | (with_reducible assumption) | assumption)
            obtain ⟨ad231, e231, hx231_0⟩ := Kd.at_int HR0.out 0 p231 q231
            cases e231
            have qi231 : (0 < l0.length) = True := eq_true (by omega)
            (try rw [show ((0 : Int)).toNat = 0 from rfl] at hx231_0)
            (try rw [Addr.add_zero'] at hx231_0)
            replace p231 := eq_true p231
            replace q231 := eq_true q231
            have p232 : 0 ≤ (0 : Int) := (by omega)
            have q232 : 0 < (l0.length : Int) := of_decide_eq_true (by first | (with_reducible assumption) | assumption)
            obtain ⟨ad232, e232, hx232_0⟩ := Kd.at_int HR0.out 0 p232 q232
            obtain rfl : ad231 = ad232 := (by injection e232)
            have qi232 : (0 < l0.length) = True := eq_true (by omega)
            (try rw [show ((0 : Int)).toNat = 0 from rfl] at hx232_0)
            (try rw [Addr.add_zero'] at hx232_0)
            replace p232 := eq_true p232
            replace q232 := eq_true q232
            go_wp2
            go_meet
            case rel => exact ⟨_, (decide ((rd l0 0) > 244)), (by first | rfl | (simp; done) | (simp [*]; done)), H', ⟨by first | omega | exact Nat.le_refl _⟩, by repeat (first | exact Drawn0.refl _ | apply Drawn0.step)⟩
        · rw [if_neg c5] at H
          exact absurd H (by simp)
  case rest =>
    clear HC2
    try clear p2
    try clear q2
    try clear hx2
    try clear qi2
    try clear c3
    try clear c3b0
    try clear c3b1
    try clear c4
    try clear c4b0
    try clear c4b1
    try clear c5
    try clear c5b0
    try clear c5b1
    try clear c6
    try clear c6b0
    try clear hx231_0
    try clear hx232_0
    try clear p231
    try clear p232
    try clear q231
    try clear q232
    obtain ⟨kq, x26_1, rfl, HA, HJ1, ⟨mc1, rfl⟩⟩ := hcut
    cases kq with
    | zero => exact absurd HA.out (by simp [repriseref1_Begins.j0])
    | succ kj1 =>
      have H := HA.out
      clear HA
      simp only [repriseref1_Begins.j0] at H
      by_cases c7 : x26_1 = true
      · subst c7
        have H1 : (some false) = some r := by rw [if_pos rfl] at H; exact H
        clear H
        have H := H1
        clear H1
        obtain rfl := Option.some.inj H
        go_wp2
        go_ret
        exact ⟨by first | rfl | (simp; done) | (simp [*]; done), by repeat (first | exact Drawn0.refl _ | apply Drawn0.step)⟩
      · replace c7 := Bool.eq_false_iff.mpr c7
        subst c7
        have H1 : (if 0 < (l0.length : Int) then (if (rd l0 0) ≥ 224 then (repriseref1_Begins.j1 kj1 l0 3) else (repriseref1_Begins.j1 kj1 l0 2)) else (none)) = some r := by rw [if_neg (show ¬ (false = true) by decide)] at H; exact H
        clear H
        have H := H1
        clear H1
        by_cases c8 : 0 < (l0.length : Int)
        · rw [if_pos c8] at H
          have c8b0 : decide (0 < (l0.length : Int)) = true := decide_eq_true c8
          have c8b1 : decide (0 < l0.length) = true := decide_eq_true (by omega)
          clear c8
          have HC9 := Aside0.mk H
          clear H
          have p233 : 0 ≤ (0 : Int) := (by omega)
          have q233 : 0 < (l0.length : Int) := of_decide_eq_true (by first | (with_reducible assumption) | assumption)
          obtain ⟨ad233, e233, hx233_0⟩ := Kd.at_int HR0.out 0 p233 q233
          cases e233
          have qi233 : (0 < l0.length) = True := eq_true (by omega)
          (try rw [show ((0 : Int)).toNat = 0 from rfl] at hx233_0)
          (try rw [Addr.add_zero'] at hx233_0)
          replace p233 := eq_true p233
          replace q233 := eq_true q233
          go_upto_if 30 with (fail)
          go_cut [3] (fun v3 wc => ∃ (kq : Nat) (x3_8 : Int), v3 = .int .i64 x3_8 ∧ Aside0 (repriseref1_Begins.j1 kq l0 x3_8 = some r) ∧ Aside0 (kq ≤ kj1) ∧ Drawn0 w wc)
          case first =>
            have H := HC9.out
            clear HC9
            by_cases c10 : (rd l0 0) ≥ 224
            · rw [if_pos c10] at H
              have c10b0 : decide (224 ≤ (rd l0 0)) = true := decide_eq_true c10
              clear c10
              (first | rw [c10b0] | (simp only [i64_w, i32_w]; rw [c10b0]) | skip)
              have H' := Aside0.mk H
              clear H
              go_wp2
              go_meet
              case rel => exact ⟨_, (3), (by first | rfl | (simp; done) | (simp [*]; done)), H', ⟨by have := HJ1.out; first | omega | exact Nat.le_refl _⟩, by repeat (first | exact Drawn0.refl _ | apply Drawn0.step)⟩
            · rw [if_neg c10] at H
              have c10b0 : decide (224 ≤ (rd l0 0)) = false := decide_eq_false c10
              clear c10
              (first | rw [c10b0] | (simp only [i64_w, i32_w]; rw [c10b0]) | skip)
              have H' := Aside0.mk H
              clear H
              go_wp2
              go_meet
              case rel => exact ⟨_, (2), (by first | rfl | (simp; done) | (simp [*]; done)), H', ⟨by have := HJ1.out; first | omega | exact Nat.le_refl _⟩, by repeat (first | exact Drawn0.refl _ | apply Drawn0.step)⟩
          case rest =>
            clear HC9
            try clear c1
            try clear p2
            try clear q2
            try clear hx2
            try clear qi2
            try clear c3
            try clear c3b0
            try clear c3b1
            try clear c4
            try clear c4b0
            try clear c4b1
            try clear c5
            try clear c5b0
            try clear c5b1
            try clear c6
            try clear c6b0
            try clear c7
            try clear c8
            try clear c8b0
            try clear c8b1
            try clear c10
            try clear c10b0
            try clear hx231_0
            try clear hx232_0
            try clear hx233_0
            try clear p2
            try clear p231
            try clear p232
            try clear p233
            try clear q2
            try clear q231
            try clear q232
            try clear q233
            obtain ⟨kq, x3_8, rfl, HA, HJ8, ⟨mc8, rfl⟩⟩ := hcut
            cases kq with
            | zero => exact absurd HA.out (by simp [repriseref1_Begins.j1])
            | succ kj8 =>
              have H := HA.out
              clear HA
              simp only [repriseref1_Begins.j1] at H
              by_cases c11 : 0 < (l0.length : Int)
              · rw [if_pos c11] at H
                have c11b0 : decide (0 < (l0.length : Int)) = true := decide_eq_true c11
                have c11b1 : decide (0 < l0.length) = true := decide_eq_true (by omega)
                clear c11
                have HC12 := Aside0.mk H
                clear H
                have p234 : 0 ≤ (0 : Int) := (by omega)
                have q234 : 0 < (l0.length : Int) := of_decide_eq_true (by first | (with_reducible assumption) | assumption)
                obtain ⟨ad234, e234, hx234_0⟩ := Kd.at_int HR0.out 0 p234 q234
                obtain rfl : ad233 = ad234 := (by injection e234)
                have qi234 : (0 < l0.length) = True := eq_true (by omega)
                (try rw [show ((0 : Int)).toNat = 0 from rfl] at hx234_0)
                (try rw [Addr.add_zero'] at hx234_0)
                replace p234 := eq_true p234
                replace q234 := eq_true q234
                go_upto_if 34 with (fail)
                go_cut [3] (fun v3 wc => ∃ (kq : Nat) (x3_11 : Int), v3 = .int .i64 x3_11 ∧ Aside0 (repriseref1_Begins.j2 kq l0 x3_11 = some r) ∧ Aside0 (kq ≤ kj8) ∧ Drawn0 w wc)
                case first =>
                  have H := HC12.out
                  clear HC12
                  by_cases c13 : (rd l0 0) ≥ 240
                  · rw [if_pos c13] at H
                    have c13b0 : decide (240 ≤ (rd l0 0)) = true := decide_eq_true c13
                    clear c13
                    (first | rw [c13b0] | (simp only [i64_w, i32_w]; rw [c13b0]) | skip)
                    have H' := Aside0.mk H
                    clear H
                    go_wp2
                    go_meet
                    case rel => exact ⟨_, (4), (by first | rfl | (simp; done) | (simp [*]; done)), H', ⟨by have := HJ1.out; have := HJ8.out; first | omega | exact Nat.le_refl _⟩, by repeat (first | exact Drawn0.refl _ | apply Drawn0.step)⟩
                  · rw [if_neg c13] at H
                    have c13b0 : decide (240 ≤ (rd l0 0)) = false := decide_eq_false c13
                    clear c13
                    (first | rw [c13b0] | (simp only [i64_w, i32_w]; rw [c13b0]) | skip)
                    have H' := Aside0.mk H
                    clear H
                    go_wp2
                    go_meet
                    case rel => exact ⟨_, (x3_8), (by first | rfl | (simp; done) | (simp [*]; done)), H', ⟨by have := HJ1.out; have := HJ8.out; first | omega | exact Nat.le_refl _⟩, by repeat (first | exact Drawn0.refl _ | apply Drawn0.step)⟩
                case rest =>
                  clear HC12
                  try clear c1
                  try clear p2
                  try clear q2
                  try clear hx2
                  try clear qi2
                  try clear c3
                  try clear c3b0
                  try clear c3b1
                  try clear c4
                  try clear c4b0
                  try clear c4b1
                  try clear c5
                  try clear c5b0
                  try clear c5b1
                  try clear c6
                  try clear c6b0
                  try clear c7
                  try clear c8
                  try clear c8b0
                  try clear c8b1
                  try clear c10
                  try clear c10b0
                  try clear c11
                  try clear c11b0
                  try clear c11b1
                  try clear c13
                  try clear c13b0
                  try clear hx231_0
                  try clear hx232_0
                  try clear hx233_0
                  try clear hx234_0
                  try clear p2
                  try clear p231
                  try clear p232
                  try clear p233
                  try clear p234
                  try clear q2
                  try clear q231
                  try clear q232
                  try clear q233
                  try clear q234
                  obtain ⟨kq, x3_11, rfl, HA, HJ11, ⟨mc11, rfl⟩⟩ := hcut
                  cases kq with
                  | zero => exact absurd HA.out (by simp [repriseref1_Begins.j2])
                  | succ kj11 =>
                    have H := HA.out
                    clear HA
                    simp only [repriseref1_Begins.j2] at H
                    by_cases c14 : (l0.length : Int) ≥ x3_11
                    · rw [if_pos c14] at H
                      have c14b0 : decide (x3_11 ≤ (l0.length : Int)) = true := decide_eq_true c14
                      clear c14
                      obtain rfl := Option.some.inj H
                      go_wp2
                      go_ret
                      exact ⟨by first | rfl | (simp; done) | (simp [*]; done), by repeat (first | exact Drawn0.refl _ | apply Drawn0.step)⟩
                    · rw [if_neg c14] at H
                      have c14b0 : decide (x3_11 ≤ (l0.length : Int)) = false := decide_eq_false c14
                      clear c14
                      have H' := Aside0.mk H
                      clear H
                      go_wp2
                      go_loopg [4] kj11 (fun kq v4 w' => ∃ (x4_4 : Int), v4 = .int .i64 x4_4 ∧ Aside0 (repriseref1_Begins.l0 kq l0 x4_4 = some r) ∧ Aside0 (kq ≤ kj11) ∧ Drawn0 w w')
                      case atStart => exact ⟨(1), (by first | rfl | (simp; done) | (simp [*]; done)), H', ⟨Nat.le_refl _⟩, by repeat (first | exact Drawn0.refl _ | apply Drawn0.step)⟩
                      case round =>
                        clear H'
                        try clear c1
                        try clear p2
                        try clear q2
                        try clear hx2
                        try clear qi2
                        try clear c3
                        try clear c3b0
                        try clear c3b1
                        try clear c4
                        try clear c4b0
                        try clear c4b1
                        try clear c5
                        try clear c5b0
                        try clear c5b1
                        try clear c6
                        try clear c6b0
                        try clear c7
                        try clear c8
                        try clear c8b0
                        try clear c8b1
                        try clear c10
                        try clear c10b0
                        try clear c11
                        try clear c11b0
                        try clear c11b1
                        try clear c13
                        try clear c13b0
                        try clear c14
                        try clear c14b0
                        try clear hx231_0
                        try clear hx232_0
                        try clear hx233_0
                        try clear hx234_0
                        try clear p2
                        try clear p231
                        try clear p232
                        try clear p233
                        try clear p234
                        try clear q2
                        try clear q231
                        try clear q232
                        try clear q233
                        try clear q234
                        obtain ⟨x4_4, rfl, HA, HK4, ⟨m4, rfl⟩⟩ := hrel
                        cases gk with
                        | zero => exact absurd HA.out (by simp [repriseref1_Begins.l0])
                        | succ k4 =>
                          have H := HA.out
                          clear HA
                          simp only [repriseref1_Begins.l0] at H
                          by_cases c15 : x4_4 < (l0.length : Int)
                          · rw [if_pos c15] at H
                            have c15b0 : decide (x4_4 < (l0.length : Int)) = true := decide_eq_true c15
                            clear c15
                            by_cases c16 : 0 ≤ x4_4
                            · rw [if_pos c16] at H
                              have c16b0 : decide (0 ≤ x4_4) = true := decide_eq_true c16
                              clear c16
                              by_cases c17 : (Go.bits .and .u8 (rd l0 x4_4) 192) = 128
                              · rw [if_pos c17] at H
                                have c17b0 : ((Go.bits .and .u8 (rd l0 x4_4) 192) == 128) = true := beq_iff_eq.mpr c17
                                have c17b1 : ((Go.bits .and .u8 (rd l0 x4_4) 192) != 128) = false := bne_eq_false_iff_eq.mpr c17
                                clear c17
                                have H' := Aside0.mk H
                                clear H
                                have p235 : 0 ≤ (x4_4 : Int) := of_decide_eq_true (by first | (with_reducible assumption) | assumption)
                                have q235 : x4_4 < (l0.length : Int) := of_decide_eq_true (by first | (with_reducible assumption) | assumption)
                                obtain ⟨ad235, e235, hx235_0⟩ := Kd.at_int HR0.out x4_4 p235 q235
                                obtain rfl : ad233 = ad235 := (by injection e235)
                                replace p235 := eq_true p235
                                replace q235 := eq_true q235
                                go_wp2
                                go_roundg k4
                                case measure => have := HJ1.out; have := HJ8.out; have := HJ11.out; have := HK4.out; omega
                                case rel => exact ⟨(wrap64 (x4_4 + 1)), (by first | rfl | (simp; done) | (simp [*]; done)), H', ⟨by have := HJ1.out; have := HJ8.out; have := HJ11.out; have := HK4.out; omega⟩, by repeat (first | exact Drawn0.refl _ | apply Drawn0.step)⟩
                              · rw [if_neg c17] at H
                                have c17b0 : ((Go.bits .and .u8 (rd l0 x4_4) 192) == 128) = false := beq_eq_false_iff_ne.mpr c17
                                have c17b1 : ((Go.bits .and .u8 (rd l0 x4_4) 192) != 128) = true := bne_iff_ne.mpr c17
                                obtain rfl := Option.some.inj H
                                have p235 : 0 ≤ (x4_4 : Int) := of_decide_eq_true (by first | (with_reducible assumption) | assumption)
                                have q235 : x4_4 < (l0.length : Int) := of_decide_eq_true (by first | (with_reducible assumption) | assumption)
                                obtain ⟨ad235, e235, hx235_0⟩ := Kd.at_int HR0.out x4_4 p235 q235
                                obtain rfl : ad233 = ad235 := (by injection e235)
                                replace p235 := eq_true p235
                                replace q235 := eq_true q235
                                go_wp2
                                go_ret
                                exact ⟨by first | rfl | (simp; done) | (simp [*]; done), by repeat (first | exact Drawn0.refl _ | apply Drawn0.step)⟩
                            · rw [if_neg c16] at H
                              exact absurd H (by simp)
                          · rw [if_neg c15] at H
                            have c15b0 : decide (x4_4 < (l0.length : Int)) = false := decide_eq_false c15
                            clear c15
                            by_cases c18 : (l0.length : Int) = 1
                            · rw [if_pos c18] at H
                              have c18b0 : ((l0.length : Int) == 1) = true := beq_iff_eq.mpr c18
                              have c18b1 : ((l0.length : Int) != 1) = false := bne_eq_false_iff_eq.mpr c18
                              clear c18
                              obtain rfl := Option.some.inj H
                              go_wp2
                              go_ret
                              exact ⟨by first | rfl | (simp; done) | (simp [*]; done), by repeat (first | exact Drawn0.refl _ | apply Drawn0.step)⟩
                            · rw [if_neg c18] at H
                              have c18b0 : ((l0.length : Int) == 1) = false := beq_eq_false_iff_ne.mpr c18
                              have c18b1 : ((l0.length : Int) != 1) = true := bne_iff_ne.mpr c18
                              by_cases c19 : 0 < (l0.length : Int)
                              · rw [if_pos c19] at H
                                have c19b0 : decide (0 < (l0.length : Int)) = true := decide_eq_true c19
                                have c19b1 : decide (0 < l0.length) = true := decide_eq_true (by omega)
                                clear c19
                                by_cases c20 : (rd l0 0) = 224
                                · rw [if_pos c20] at H
                                  have c20b0 : ((rd l0 0) == 224) = true := beq_iff_eq.mpr c20
                                  have c20b1 : ((rd l0 0) != 224) = false := bne_eq_false_iff_eq.mpr c20
                                  clear c20
                                  by_cases c21 : 1 < (l0.length : Int)
                                  · rw [if_pos c21] at H
                                    have c21b0 : decide (1 < (l0.length : Int)) = true := decide_eq_true c21
                                    have c21b1 : decide (1 < l0.length) = true := decide_eq_true (by omega)
                                    clear c21
                                    by_cases c22 : (rd l0 1) ≥ 160
                                    · rw [if_pos c22] at H
                                      have c22b0 : decide (160 ≤ (rd l0 1)) = true := decide_eq_true c22
                                      clear c22
                                      obtain rfl := Option.some.inj H
                                      have p236 : 0 ≤ (0 : Int) := (by omega)
                                      have q236 : 0 < (l0.length : Int) := of_decide_eq_true (by first | (with_reducible assumption) | assumption)
                                      obtain ⟨ad236, e236, hx236_0⟩ := Kd.at_int HR0.out 0 p236 q236
                                      obtain rfl : ad233 = ad236 := (by injection e236)
                                      have qi236 : (0 < l0.length) = True := eq_true (by omega)
                                      (try rw [show ((0 : Int)).toNat = 0 from rfl] at hx236_0)
                                      (try rw [Addr.add_zero'] at hx236_0)
                                      replace p236 := eq_true p236
                                      replace q236 := eq_true q236
                                      have p237 : 0 ≤ (1 : Int) := (by omega)
                                      have q237 : 1 < (l0.length : Int) := of_decide_eq_true (by first | (with_reducible assumption) | assumption)
                                      obtain ⟨ad237, e237, hx237_0⟩ := Kd.at_int HR0.out 1 p237 q237
                                      obtain rfl : ad233 = ad237 := (by injection e237)
                                      (try simp only [show (1 : Int).toNat = 1 from rfl, Nat.reduceMul, Nat.reduceEqDiff, Go.Addr.add, ↓reduceIte] at hx237_0)
                                      have qi237 : (1 < l0.length) = True := eq_true (by omega)
                                      (try rw [show ((1 : Int)).toNat = 1 from rfl] at hx237_0)
                                      replace p237 := eq_true p237
                                      replace q237 := eq_true q237
                                      have p238 : 0 ≤ (1 : Int) := (by omega)
                                      have q238 : 1 < (l0.length : Int) := of_decide_eq_true (by first | (with_reducible assumption) | assumption)
                                      obtain ⟨ad238, e238, hx238_0⟩ := Kd.at_int HR0.out 1 p238 q238
                                      obtain rfl : ad233 = ad238 := (by injection e238)
                                      (try simp only [show (1 : Int).toNat = 1 from rfl, Nat.reduceMul, Nat.reduceEqDiff, Go.Addr.add, ↓reduceIte] at hx238_0)
                                      have qi238 : (1 < l0.length) = True := eq_true (by omega)
                                      (try rw [show ((1 : Int)).toNat = 1 from rfl] at hx238_0)
                                      replace p238 := eq_true p238
                                      replace q238 := eq_true q238
                                      go_wp2
                                      go_ret
                                      exact ⟨by first | rfl | (simp; done) | (simp [*]; done), by repeat (first | exact Drawn0.refl _ | apply Drawn0.step)⟩
                                    · rw [if_neg c22] at H
                                      have c22b0 : decide (160 ≤ (rd l0 1)) = false := decide_eq_false c22
                                      clear c22
                                      obtain rfl := Option.some.inj H
                                      have p236 : 0 ≤ (0 : Int) := (by omega)
                                      have q236 : 0 < (l0.length : Int) := of_decide_eq_true (by first | (with_reducible assumption) | assumption)
                                      obtain ⟨ad236, e236, hx236_0⟩ := Kd.at_int HR0.out 0 p236 q236
                                      obtain rfl : ad233 = ad236 := (by injection e236)
                                      have qi236 : (0 < l0.length) = True := eq_true (by omega)
                                      (try rw [show ((0 : Int)).toNat = 0 from rfl] at hx236_0)
                                      (try rw [Addr.add_zero'] at hx236_0)
                                      replace p236 := eq_true p236
                                      replace q236 := eq_true q236
                                      have p237 : 0 ≤ (1 : Int) := (by omega)
                                      have q237 : 1 < (l0.length : Int) := of_decide_eq_true (by first | (with_reducible assumption) | assumption)
                                      obtain ⟨ad237, e237, hx237_0⟩ := Kd.at_int HR0.out 1 p237 q237
                                      obtain rfl : ad233 = ad237 := (by injection e237)
                                      (try simp only [show (1 : Int).toNat = 1 from rfl, Nat.reduceMul, Nat.reduceEqDiff, Go.Addr.add, ↓reduceIte] at hx237_0)
                                      have qi237 : (1 < l0.length) = True := eq_true (by omega)
                                      (try rw [show ((1 : Int)).toNat = 1 from rfl] at hx237_0)
                                      replace p237 := eq_true p237
                                      replace q237 := eq_true q237
                                      go_wp2
                                      go_ret
                                      exact ⟨by first | rfl | (simp; done) | (simp [*]; done), by repeat (first | exact Drawn0.refl _ | apply Drawn0.step)⟩
                                  · rw [if_neg c21] at H
                                    exact absurd H (by simp)
                                · rw [if_neg c20] at H
                                  have c20b0 : ((rd l0 0) == 224) = false := beq_eq_false_iff_ne.mpr c20
                                  have c20b1 : ((rd l0 0) != 224) = true := bne_iff_ne.mpr c20
                                  by_cases c23 : (rd l0 0) = 237
                                  · rw [if_pos c23] at H
                                    have c23b0 : ((rd l0 0) == 237) = true := beq_iff_eq.mpr c23
                                    have c23b1 : ((rd l0 0) != 237) = false := bne_eq_false_iff_eq.mpr c23
                                    clear c23
                                    by_cases c24 : 1 < (l0.length : Int)
                                    · rw [if_pos c24] at H
                                      have c24b0 : decide (1 < (l0.length : Int)) = true := decide_eq_true c24
                                      have c24b1 : decide (1 < l0.length) = true := decide_eq_true (by omega)
                                      clear c24
                                      by_cases c25 : (rd l0 1) ≥ 128
                                      · rw [if_pos c25] at H
                                        have c25b0 : decide (128 ≤ (rd l0 1)) = true := decide_eq_true c25
                                        clear c25
                                        obtain rfl := Option.some.inj H
                                        have p236 : 0 ≤ (0 : Int) := (by omega)
                                        have q236 : 0 < (l0.length : Int) := of_decide_eq_true (by first | (with_reducible assumption) | assumption)
                                        obtain ⟨ad236, e236, hx236_0⟩ := Kd.at_int HR0.out 0 p236 q236
                                        obtain rfl : ad233 = ad236 := (by injection e236)
                                        have qi236 : (0 < l0.length) = True := eq_true (by omega)
                                        (try rw [show ((0 : Int)).toNat = 0 from rfl] at hx236_0)
                                        (try rw [Addr.add_zero'] at hx236_0)
                                        replace p236 := eq_true p236
                                        replace q236 := eq_true q236
                                        have p239 : 0 ≤ (1 : Int) := (by omega)
                                        have q239 : 1 < (l0.length : Int) := of_decide_eq_true (by first | (with_reducible assumption) | assumption)
                                        obtain ⟨ad239, e239, hx239_0⟩ := Kd.at_int HR0.out 1 p239 q239
                                        obtain rfl : ad233 = ad239 := (by injection e239)
                                        (try simp only [show (1 : Int).toNat = 1 from rfl, Nat.reduceMul, Nat.reduceEqDiff, Go.Addr.add, ↓reduceIte] at hx239_0)
                                        have qi239 : (1 < l0.length) = True := eq_true (by omega)
                                        (try rw [show ((1 : Int)).toNat = 1 from rfl] at hx239_0)
                                        replace p239 := eq_true p239
                                        replace q239 := eq_true q239
                                        have p240 : 0 ≤ (1 : Int) := (by omega)
                                        have q240 : 1 < (l0.length : Int) := of_decide_eq_true (by first | (with_reducible assumption) | assumption)
                                        obtain ⟨ad240, e240, hx240_0⟩ := Kd.at_int HR0.out 1 p240 q240
                                        obtain rfl : ad233 = ad240 := (by injection e240)
                                        (try simp only [show (1 : Int).toNat = 1 from rfl, Nat.reduceMul, Nat.reduceEqDiff, Go.Addr.add, ↓reduceIte] at hx240_0)
                                        have qi240 : (1 < l0.length) = True := eq_true (by omega)
                                        (try rw [show ((1 : Int)).toNat = 1 from rfl] at hx240_0)
                                        replace p240 := eq_true p240
                                        replace q240 := eq_true q240
                                        go_wp2
                                        go_ret
                                        exact ⟨by first | rfl | (simp; done) | (simp [*]; done), by repeat (first | exact Drawn0.refl _ | apply Drawn0.step)⟩
                                      · rw [if_neg c25] at H
                                        have c25b0 : decide (128 ≤ (rd l0 1)) = false := decide_eq_false c25
                                        clear c25
                                        obtain rfl := Option.some.inj H
                                        have p236 : 0 ≤ (0 : Int) := (by omega)
                                        have q236 : 0 < (l0.length : Int) := of_decide_eq_true (by first | (with_reducible assumption) | assumption)
                                        obtain ⟨ad236, e236, hx236_0⟩ := Kd.at_int HR0.out 0 p236 q236
                                        obtain rfl : ad233 = ad236 := (by injection e236)
                                        have qi236 : (0 < l0.length) = True := eq_true (by omega)
                                        (try rw [show ((0 : Int)).toNat = 0 from rfl] at hx236_0)
                                        (try rw [Addr.add_zero'] at hx236_0)
                                        replace p236 := eq_true p236
                                        replace q236 := eq_true q236
                                        have p239 : 0 ≤ (1 : Int) := (by omega)
                                        have q239 : 1 < (l0.length : Int) := of_decide_eq_true (by first | (with_reducible assumption) | assumption)
                                        obtain ⟨ad239, e239, hx239_0⟩ := Kd.at_int HR0.out 1 p239 q239
                                        obtain rfl : ad233 = ad239 := (by injection e239)
                                        (try simp only [show (1 : Int).toNat = 1 from rfl, Nat.reduceMul, Nat.reduceEqDiff, Go.Addr.add, ↓reduceIte] at hx239_0)
                                        have qi239 : (1 < l0.length) = True := eq_true (by omega)
                                        (try rw [show ((1 : Int)).toNat = 1 from rfl] at hx239_0)
                                        replace p239 := eq_true p239
                                        replace q239 := eq_true q239
                                        go_wp2
                                        go_ret
                                        exact ⟨by first | rfl | (simp; done) | (simp [*]; done), by repeat (first | exact Drawn0.refl _ | apply Drawn0.step)⟩
                                    · rw [if_neg c24] at H
                                      exact absurd H (by simp)
                                  · rw [if_neg c23] at H
                                    have c23b0 : ((rd l0 0) == 237) = false := beq_eq_false_iff_ne.mpr c23
                                    have c23b1 : ((rd l0 0) != 237) = true := bne_iff_ne.mpr c23
                                    by_cases c26 : (rd l0 0) = 240
                                    · rw [if_pos c26] at H
                                      have c26b0 : ((rd l0 0) == 240) = true := beq_iff_eq.mpr c26
                                      have c26b1 : ((rd l0 0) != 240) = false := bne_eq_false_iff_eq.mpr c26
                                      clear c26
                                      by_cases c27 : 1 < (l0.length : Int)
                                      · rw [if_pos c27] at H
                                        have c27b0 : decide (1 < (l0.length : Int)) = true := decide_eq_true c27
                                        have c27b1 : decide (1 < l0.length) = true := decide_eq_true (by omega)
                                        clear c27
                                        by_cases c28 : (rd l0 1) ≥ 144
                                        · rw [if_pos c28] at H
                                          have c28b0 : decide (144 ≤ (rd l0 1)) = true := decide_eq_true c28
                                          clear c28
                                          obtain rfl := Option.some.inj H
                                          have p236 : 0 ≤ (0 : Int) := (by omega)
                                          have q236 : 0 < (l0.length : Int) := of_decide_eq_true (by first | (with_reducible assumption) | assumption)
                                          obtain ⟨ad236, e236, hx236_0⟩ := Kd.at_int HR0.out 0 p236 q236
                                          obtain rfl : ad233 = ad236 := (by injection e236)
                                          have qi236 : (0 < l0.length) = True := eq_true (by omega)
                                          (try rw [show ((0 : Int)).toNat = 0 from rfl] at hx236_0)
                                          (try rw [Addr.add_zero'] at hx236_0)
                                          replace p236 := eq_true p236
                                          replace q236 := eq_true q236
                                          have p241 : 0 ≤ (1 : Int) := (by omega)
                                          have q241 : 1 < (l0.length : Int) := of_decide_eq_true (by first | (with_reducible assumption) | assumption)
                                          obtain ⟨ad241, e241, hx241_0⟩ := Kd.at_int HR0.out 1 p241 q241
                                          obtain rfl : ad233 = ad241 := (by injection e241)
                                          (try simp only [show (1 : Int).toNat = 1 from rfl, Nat.reduceMul, Nat.reduceEqDiff, Go.Addr.add, ↓reduceIte] at hx241_0)
                                          have qi241 : (1 < l0.length) = True := eq_true (by omega)
                                          (try rw [show ((1 : Int)).toNat = 1 from rfl] at hx241_0)
                                          replace p241 := eq_true p241
                                          replace q241 := eq_true q241
                                          have p242 : 0 ≤ (1 : Int) := (by omega)
                                          have q242 : 1 < (l0.length : Int) := of_decide_eq_true (by first | (with_reducible assumption) | assumption)
                                          obtain ⟨ad242, e242, hx242_0⟩ := Kd.at_int HR0.out 1 p242 q242
                                          obtain rfl : ad233 = ad242 := (by injection e242)
                                          (try simp only [show (1 : Int).toNat = 1 from rfl, Nat.reduceMul, Nat.reduceEqDiff, Go.Addr.add, ↓reduceIte] at hx242_0)
                                          have qi242 : (1 < l0.length) = True := eq_true (by omega)
                                          (try rw [show ((1 : Int)).toNat = 1 from rfl] at hx242_0)
                                          replace p242 := eq_true p242
                                          replace q242 := eq_true q242
                                          go_wp2
                                          go_ret
                                          exact ⟨by first | rfl | (simp; done) | (simp [*]; done), by repeat (first | exact Drawn0.refl _ | apply Drawn0.step)⟩
                                        · rw [if_neg c28] at H
                                          have c28b0 : decide (144 ≤ (rd l0 1)) = false := decide_eq_false c28
                                          clear c28
                                          obtain rfl := Option.some.inj H
                                          have p236 : 0 ≤ (0 : Int) := (by omega)
                                          have q236 : 0 < (l0.length : Int) := of_decide_eq_true (by first | (with_reducible assumption) | assumption)
                                          obtain ⟨ad236, e236, hx236_0⟩ := Kd.at_int HR0.out 0 p236 q236
                                          obtain rfl : ad233 = ad236 := (by injection e236)
                                          have qi236 : (0 < l0.length) = True := eq_true (by omega)
                                          (try rw [show ((0 : Int)).toNat = 0 from rfl] at hx236_0)
                                          (try rw [Addr.add_zero'] at hx236_0)
                                          replace p236 := eq_true p236
                                          replace q236 := eq_true q236
                                          have p241 : 0 ≤ (1 : Int) := (by omega)
                                          have q241 : 1 < (l0.length : Int) := of_decide_eq_true (by first | (with_reducible assumption) | assumption)
                                          obtain ⟨ad241, e241, hx241_0⟩ := Kd.at_int HR0.out 1 p241 q241
                                          obtain rfl : ad233 = ad241 := (by injection e241)
                                          (try simp only [show (1 : Int).toNat = 1 from rfl, Nat.reduceMul, Nat.reduceEqDiff, Go.Addr.add, ↓reduceIte] at hx241_0)
                                          have qi241 : (1 < l0.length) = True := eq_true (by omega)
                                          (try rw [show ((1 : Int)).toNat = 1 from rfl] at hx241_0)
                                          replace p241 := eq_true p241
                                          replace q241 := eq_true q241
                                          go_wp2
                                          go_ret
                                          exact ⟨by first | rfl | (simp; done) | (simp [*]; done), by repeat (first | exact Drawn0.refl _ | apply Drawn0.step)⟩
                                      · rw [if_neg c27] at H
                                        exact absurd H (by simp)
                                    · rw [if_neg c26] at H
                                      have c26b0 : ((rd l0 0) == 240) = false := beq_eq_false_iff_ne.mpr c26
                                      have c26b1 : ((rd l0 0) != 240) = true := bne_iff_ne.mpr c26
                                      by_cases c29 : (rd l0 0) = 244
                                      · rw [if_pos c29] at H
                                        have c29b0 : ((rd l0 0) == 244) = true := beq_iff_eq.mpr c29
                                        have c29b1 : ((rd l0 0) != 244) = false := bne_eq_false_iff_eq.mpr c29
                                        clear c29
                                        by_cases c30 : 1 < (l0.length : Int)
                                        · rw [if_pos c30] at H
                                          have c30b0 : decide (1 < (l0.length : Int)) = true := decide_eq_true c30
                                          have c30b1 : decide (1 < l0.length) = true := decide_eq_true (by omega)
                                          clear c30
                                          by_cases c31 : (rd l0 1) ≥ 128
                                          · rw [if_pos c31] at H
                                            have c31b0 : decide (128 ≤ (rd l0 1)) = true := decide_eq_true c31
                                            clear c31
                                            obtain rfl := Option.some.inj H
                                            have p236 : 0 ≤ (0 : Int) := (by omega)
                                            have q236 : 0 < (l0.length : Int) := of_decide_eq_true (by first | (with_reducible assumption) | assumption)
                                            obtain ⟨ad236, e236, hx236_0⟩ := Kd.at_int HR0.out 0 p236 q236
                                            obtain rfl : ad233 = ad236 := (by injection e236)
                                            have qi236 : (0 < l0.length) = True := eq_true (by omega)
                                            (try rw [show ((0 : Int)).toNat = 0 from rfl] at hx236_0)
                                            (try rw [Addr.add_zero'] at hx236_0)
                                            replace p236 := eq_true p236
                                            replace q236 := eq_true q236
                                            have p243 : 0 ≤ (1 : Int) := (by omega)
                                            have q243 : 1 < (l0.length : Int) := of_decide_eq_true (by first | (with_reducible assumption) | assumption)
                                            obtain ⟨ad243, e243, hx243_0⟩ := Kd.at_int HR0.out 1 p243 q243
                                            obtain rfl : ad233 = ad243 := (by injection e243)
                                            (try simp only [show (1 : Int).toNat = 1 from rfl, Nat.reduceMul, Nat.reduceEqDiff, Go.Addr.add, ↓reduceIte] at hx243_0)
                                            have qi243 : (1 < l0.length) = True := eq_true (by omega)
                                            (try rw [show ((1 : Int)).toNat = 1 from rfl] at hx243_0)
                                            replace p243 := eq_true p243
                                            replace q243 := eq_true q243
                                            have p244 : 0 ≤ (1 : Int) := (by omega)
                                            have q244 : 1 < (l0.length : Int) := of_decide_eq_true (by first | (with_reducible assumption) | assumption)
                                            obtain ⟨ad244, e244, hx244_0⟩ := Kd.at_int HR0.out 1 p244 q244
                                            obtain rfl : ad233 = ad244 := (by injection e244)
                                            (try simp only [show (1 : Int).toNat = 1 from rfl, Nat.reduceMul, Nat.reduceEqDiff, Go.Addr.add, ↓reduceIte] at hx244_0)
                                            have qi244 : (1 < l0.length) = True := eq_true (by omega)
                                            (try rw [show ((1 : Int)).toNat = 1 from rfl] at hx244_0)
                                            replace p244 := eq_true p244
                                            replace q244 := eq_true q244
                                            go_wp2
                                            go_ret
                                            exact ⟨by first | rfl | (simp; done) | (simp [*]; done), by repeat (first | exact Drawn0.refl _ | apply Drawn0.step)⟩
                                          · rw [if_neg c31] at H
                                            have c31b0 : decide (128 ≤ (rd l0 1)) = false := decide_eq_false c31
                                            clear c31
                                            obtain rfl := Option.some.inj H
                                            have p236 : 0 ≤ (0 : Int) := (by omega)
                                            have q236 : 0 < (l0.length : Int) := of_decide_eq_true (by first | (with_reducible assumption) | assumption)
                                            obtain ⟨ad236, e236, hx236_0⟩ := Kd.at_int HR0.out 0 p236 q236
                                            obtain rfl : ad233 = ad236 := (by injection e236)
                                            have qi236 : (0 < l0.length) = True := eq_true (by omega)
                                            (try rw [show ((0 : Int)).toNat = 0 from rfl] at hx236_0)
                                            (try rw [Addr.add_zero'] at hx236_0)
                                            replace p236 := eq_true p236
                                            replace q236 := eq_true q236
                                            have p243 : 0 ≤ (1 : Int) := (by omega)
                                            have q243 : 1 < (l0.length : Int) := of_decide_eq_true (by first | (with_reducible assumption) | assumption)
                                            obtain ⟨ad243, e243, hx243_0⟩ := Kd.at_int HR0.out 1 p243 q243
                                            obtain rfl : ad233 = ad243 := (by injection e243)
                                            (try simp only [show (1 : Int).toNat = 1 from rfl, Nat.reduceMul, Nat.reduceEqDiff, Go.Addr.add, ↓reduceIte] at hx243_0)
                                            have qi243 : (1 < l0.length) = True := eq_true (by omega)
                                            (try rw [show ((1 : Int)).toNat = 1 from rfl] at hx243_0)
                                            replace p243 := eq_true p243
                                            replace q243 := eq_true q243
                                            go_wp2
                                            go_ret
                                            exact ⟨by first | rfl | (simp; done) | (simp [*]; done), by repeat (first | exact Drawn0.refl _ | apply Drawn0.step)⟩
                                        · rw [if_neg c30] at H
                                          exact absurd H (by simp)
                                      · rw [if_neg c29] at H
                                        have c29b0 : ((rd l0 0) == 244) = false := beq_eq_false_iff_ne.mpr c29
                                        have c29b1 : ((rd l0 0) != 244) = true := bne_iff_ne.mpr c29
                                        by_cases c32 : 1 < (l0.length : Int)
                                        · rw [if_pos c32] at H
                                          have c32b0 : decide (1 < (l0.length : Int)) = true := decide_eq_true c32
                                          have c32b1 : decide (1 < l0.length) = true := decide_eq_true (by omega)
                                          clear c32
                                          by_cases c33 : (rd l0 1) ≥ 128
                                          · rw [if_pos c33] at H
                                            have c33b0 : decide (128 ≤ (rd l0 1)) = true := decide_eq_true c33
                                            clear c33
                                            obtain rfl := Option.some.inj H
                                            have p236 : 0 ≤ (0 : Int) := (by omega)
                                            have q236 : 0 < (l0.length : Int) := of_decide_eq_true (by first | (with_reducible assumption) | assumption)
                                            obtain ⟨ad236, e236, hx236_0⟩ := Kd.at_int HR0.out 0 p236 q236
                                            obtain rfl : ad233 = ad236 := (by injection e236)
                                            have qi236 : (0 < l0.length) = True := eq_true (by omega)
                                            (try rw [show ((0 : Int)).toNat = 0 from rfl] at hx236_0)
                                            (try rw [Addr.add_zero'] at hx236_0)
                                            replace p236 := eq_true p236
                                            replace q236 := eq_true q236
                                            have p245 : 0 ≤ (1 : Int) := (by omega)
                                            have q245 : 1 < (l0.length : Int) := of_decide_eq_true (by first | (with_reducible assumption) | assumption)
                                            obtain ⟨ad245, e245, hx245_0⟩ := Kd.at_int HR0.out 1 p245 q245
                                            obtain rfl : ad233 = ad245 := (by injection e245)
                                            (try simp only [show (1 : Int).toNat = 1 from rfl, Nat.reduceMul, Nat.reduceEqDiff, Go.Addr.add, ↓reduceIte] at hx245_0)
                                            have qi245 : (1 < l0.length) = True := eq_true (by omega)
                                            (try rw [show ((1 : Int)).toNat = 1 from rfl] at hx245_0)
                                            replace p245 := eq_true p245
                                            replace q245 := eq_true q245
                                            have p246 : 0 ≤ (1 : Int) := (by omega)
                                            have q246 : 1 < (l0.length : Int) := of_decide_eq_true (by first | (with_reducible assumption) | assumption)
                                            obtain ⟨ad246, e246, hx246_0⟩ := Kd.at_int HR0.out 1 p246 q246
                                            obtain rfl : ad233 = ad246 := (by injection e246)
                                            (try simp only [show (1 : Int).toNat = 1 from rfl, Nat.reduceMul, Nat.reduceEqDiff, Go.Addr.add, ↓reduceIte] at hx246_0)
                                            have qi246 : (1 < l0.length) = True := eq_true (by omega)
                                            (try rw [show ((1 : Int)).toNat = 1 from rfl] at hx246_0)
                                            replace p246 := eq_true p246
                                            replace q246 := eq_true q246
                                            go_wp2
                                            go_ret
                                            exact ⟨by first | rfl | (simp; done) | (simp [*]; done), by repeat (first | exact Drawn0.refl _ | apply Drawn0.step)⟩
                                          · rw [if_neg c33] at H
                                            have c33b0 : decide (128 ≤ (rd l0 1)) = false := decide_eq_false c33
                                            clear c33
                                            obtain rfl := Option.some.inj H
                                            have p236 : 0 ≤ (0 : Int) := (by omega)
                                            have q236 : 0 < (l0.length : Int) := of_decide_eq_true (by first | (with_reducible assumption) | assumption)
                                            obtain ⟨ad236, e236, hx236_0⟩ := Kd.at_int HR0.out 0 p236 q236
                                            obtain rfl : ad233 = ad236 := (by injection e236)
                                            have qi236 : (0 < l0.length) = True := eq_true (by omega)
                                            (try rw [show ((0 : Int)).toNat = 0 from rfl] at hx236_0)
                                            (try rw [Addr.add_zero'] at hx236_0)
                                            replace p236 := eq_true p236
                                            replace q236 := eq_true q236
                                            have p245 : 0 ≤ (1 : Int) := (by omega)
                                            have q245 : 1 < (l0.length : Int) := of_decide_eq_true (by first | (with_reducible assumption) | assumption)
                                            obtain ⟨ad245, e245, hx245_0⟩ := Kd.at_int HR0.out 1 p245 q245
                                            obtain rfl : ad233 = ad245 := (by injection e245)
                                            (try simp only [show (1 : Int).toNat = 1 from rfl, Nat.reduceMul, Nat.reduceEqDiff, Go.Addr.add, ↓reduceIte] at hx245_0)
                                            have qi245 : (1 < l0.length) = True := eq_true (by omega)
                                            (try rw [show ((1 : Int)).toNat = 1 from rfl] at hx245_0)
                                            replace p245 := eq_true p245
                                            replace q245 := eq_true q245
                                            go_wp2
                                            go_ret
                                            exact ⟨by first | rfl | (simp; done) | (simp [*]; done), by repeat (first | exact Drawn0.refl _ | apply Drawn0.step)⟩
                                        · rw [if_neg c32] at H
                                          exact absurd H (by simp)
                              · rw [if_neg c19] at H
                                exact absurd H (by simp)
              · rw [if_neg c11] at H
                exact absurd H (by simp)
        · rw [if_neg c8] at H
          exact absurd H (by simp)

end Go.Proofs.Ytoaeibhicbgknaa.QSearchPlays
