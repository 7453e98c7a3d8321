/- Lean functions for the Go functions that the law reaches, and proofs that each call comes to just what its Lean function tells; no condition. (Written by a program of this session.) -/
import Derived.Test.YtoaeibhicbgknaaQSearchPlaysx0
import Derived.Test.YtoaeibhicbgknaaQSearchPlaysx2
namespace Go.Proofs.Ytoaeibhicbgknaa.QSearchPlays
open Go.RowKit Go.Proofs.YtoaeibhicbgknaaW.PrintWords Go.Proofs.YtoaeibhicbgknaaW.PrintLast Go.Proofs.YtoaeibhicbgknaaW.PrintMore
attribute [local go_sem] max2_int min2_int max_two min_two max_three min_three max_four min_four   -- for this text's walks alone
set_option linter.unusedVariables false
set_option linter.unusedSimpArgs false

/-! ### repriseref11_within: function 25 -/
def repriseref11_within.f (a0 : Int) (a1 : Int) : Option (Int) := some (mn (mx a0 0) a1)
set_option maxHeartbeats 8000000 in
set_option maxRecDepth 100000 in
theorem repriseref11_within.calls (a0 : Int) (a1 : Int) (r : Int) (w : World) (h : repriseref11_within.f a0 a1 = some r) :
    Calls Try.prog 25 #[.int .i64 a0, .int .i64 a1] w fun e w' => e = .returned (.int .i64 r) ∧ Below w.heap.size w w' := by
  have HB := Aside0.mk (Below.refl w.heap.size w)
  have H : (some (mn (mx a0 0) a1)) = some r := h
  clear h
  obtain ⟨ji3, hji3⟩ : ∃ j_ : Int, (mx a0 0) = j_ := ⟨_, rfl⟩
  replace H : (some (mn (ji3) a1)) = some r := by first | (rw [hji3] at H; exact H) | (simp only [hji3] at H ⊢; exact H)
  (try (have hji3l : 0 ≤ ji3 := by (rw [← hji3]; unfold mx; (repeat' split) <;> omega)))
  (try (have hji3m : 0 ≤ ji3 := by omega))
  have hji3_ : (if a0 < 0 then 0 else a0) = ji3 := hji3
  obtain ⟨ji4, hji4⟩ : ∃ j_ : Int, (mn (ji3) a1) = j_ := ⟨_, rfl⟩
  replace H : (some ji4) = some r := by first | (rw [hji4] at H; exact H) | (simp only [hji4] at H ⊢; exact H)
  have hji4_ : (if a1 < (ji3) then a1 else (ji3)) = ji4 := hji4
  obtain rfl := Option.some.inj H
  go_enter Try.func25, Try.ntmps25
  go_wp2
  go_ret
  exact ⟨by first | rfl | (simp [errW_none, errW_some] <;> rfl) | (simp only [← hji3, ← hji4]; first | rfl | (simp [errW_none, errW_some] <;> rfl)) | (simp [*, errW_none, errW_some] <;> rfl), by repeat (first | (with_reducible first | exact HB.out | apply below_alloc | apply pw_below_drewN | apply below_drew1) | exact HB.out)⟩

/-! ### repriseref11_own: function 26 -/
def repriseref11_own.f (l0 : List Int) : Option (List Int) := if ([] : List Int).length + l0.length < 35184372088832 then (some (([] : List Int) ++ l0)) else (none)
set_option maxHeartbeats 8000000 in
set_option maxRecDepth 100000 in
theorem repriseref11_own.calls (A0 : Option Addr) (c0 : Nat) (l0 : List Int) (r : List Int) (w : World) (hr0 : Kd.C (Kd.int .i32) w A0 l0.length l0) (hc0 : l0.length ≤ c0) (h : repriseref11_own.f l0 = some r) :
    Calls Try.prog 26 #[.slice A0 l0.length c0] w fun e w' => ∃ v0_ : Value, e = .returned (v0_) ∧ Kd.R (Kd.int .i32) 21 w' w.heap.size (fun _ => True) v0_ r ∧ Below w.heap.size w w' := by
  have HR0 := Aside0.mk hr0
  have HC0 := Aside0.mk hc0
  clear hr0 hc0
  have HB := Aside0.mk (Below.refl w.heap.size w)
  have H : (if ([] : List Int).length + l0.length < 35184372088832 then (some (([] : List Int) ++ l0)) else (none)) = some r := h
  clear h
  by_cases c2 : ([] : List Int).length + l0.length < 35184372088832
  · rw [if_pos c2] at H
    have LMc2 := Aside0.mk c2
    clear c2
    obtain ⟨y323, hy323⟩ : ∃ y_ : List Int, y_ = (([] : List Int) ++ l0) := ⟨_, rfl⟩
    replace H : (some y323) = some r := by first | (rw [hy323]; with_reducible exact H) | (have H2_ := (Option.bind_some _ _).symm.trans H; rw [hy323]; with_reducible exact H2_) | (have H2_ := (Option.bind_some _ _).symm.trans H; with_reducible exact H2_) | with_reducible exact H | (rw [hy323]; exact H) | exact H
    have Ny323 := Aside0.mk hy323
    clear hy323
    obtain rfl := Option.some.inj H
    go_enter Try.func26, Try.ntmps26
    go_wp2_with (first | ((with_reducible refine gate_builtin (b := .append) (xs := #[.const (.slice none 0 0), .tmp 3]) rfl ?_); at_builtin; refine Kd.R_append_rows (Kd.int .i32) (w0 := w) w.heap.size rfl (.const (.slice none 0 0)) (.tmp 3) 27 21 (.int .i32 0) 4 rfl Try.underlying27 info21 rfl (by decide) (by omega) (.slice none 0 0) ([] : List Int) l0 _ _ _ (fun _ => True) (fun _ => False) rfl rfl ?aO ?aR (fun _ _ h => h) (fun _ h => h.elim) ?aF ?aB ?aS ?aL ?_; (case aR => repeat (first | exact HR0.out | (with_reducible refine Kd.C_alloc ?_ _) | (with_reducible refine Kd.C_drewN ?_ _) | (with_reducible refine Kd.C_drew ?_))); (case aB => exact (by repeat (first | (with_reducible first | exact HB.out | apply below_alloc | apply pw_below_drewN | apply below_drew1) | exact HB.out))); (case aF => exact (fun _ _ => trivial)); (case aO => exact ((Kd.R_nil _ _ _ _ (fun _ => True)))); (case aS => exact (below_size (by repeat (first | (with_reducible first | exact HB.out | apply below_alloc | apply pw_below_drewN | apply below_drew1) | exact HB.out)))); (case aL => have := LMc2.out; omega); intro v324 w3 ho hb hg hat; rw [← Ny323.out] at ho; have n0_ := Aside0.mk (hb); have n1_ := Aside0.mk (ho); clear HB; have HB := n0_; have HO325 := n1_; clear n0_ n1_; clear ho hb hg hat))
    go_ret
    exact ⟨_, by first | rfl | (simp [errW_none, errW_some] <;> rfl) | (simp [*, errW_none, errW_some] <;> rfl), by (with_reducible repeat (first | apply Kd.R_alloc | apply Kd.R_drewN | apply Kd.R_drew)); exact HO325.out, by repeat (first | (with_reducible first | exact HB.out | apply below_alloc | apply pw_below_drewN | apply below_drew1) | exact HB.out)⟩
  · rw [if_neg c2] at H
    exact absurd H (by simp)

/-! ### repriseref11_at: function 29 -/
def repriseref11_at.l0 : Nat → ByteArray → ByteArray → Int → Option (Int)
  | 0, _, _, _ => none
  | k + 1, x0, x1, x5 => if (wrap64 (x5 + (x1.size : Int))) ≤ (x0.size : Int) then (if 0 ≤ x5 then (if x5 ≤ (wrap64 (x5 + (x1.size : Int))) then (if (x0.extract (x5 : Int).toNat ((wrap64 (x5 + (x1.size : Int))) : Int).toNat).toList = x1.toList then (some x5) else (repriseref11_at.l0 k x0 x1 (wrap64 (x5 + 1)))) else (none)) else (none)) else (some (-1))
def repriseref11_at.f (k : Nat) (a0 : ByteArray) (a1 : ByteArray) : Option (Int) := repriseref11_at.l0 k a0 a1 0
theorem repriseref11_at.mono_l : ∀ k, (∀ y0 y1 y2, LeO (repriseref11_at.l0 k y0 y1 y2) (repriseref11_at.l0 (k + 1) y0 y1 y2))
  | 0 => fun _ _ _ r h => by simp [repriseref11_at.l0] at h
  | k + 1 => by
    have ih0 := repriseref11_at.mono_l k
    · intro y0 y1 y2
      unfold repriseref11_at.l0
      repeat' first
      | (with_reducible exact ih0 _ _ _)
      | (with_reducible exact LeO.refl _)
      | (with_reducible exact LeO.none _)
      | (with_reducible refine LeO.ite ?_ ?_)
      | (with_reducible refine LeO.bind ?_ (fun _ => ?_))
      | exact ih0 _ _ _
      | exact LeO.none _
      | refine LeO.ite ?_ ?_
      | refine LeO.bind ?_ (fun _ => ?_)
theorem repriseref11_at.mono : ∀ a0 a1 k, LeO (repriseref11_at.f k a0 a1) (repriseref11_at.f (k + 1) a0 a1) := by
  intro a0 a1 k
  have ih0 := repriseref11_at.mono_l k
  unfold repriseref11_at.f
  repeat' first
      | (with_reducible exact ih0 _ _ _)
      | (with_reducible exact LeO.refl _)
      | (with_reducible exact LeO.none _)
      | (with_reducible refine LeO.ite ?_ ?_)
      | (with_reducible refine LeO.bind ?_ (fun _ => ?_))
      | exact ih0 _ _ _
      | exact LeO.none _
      | refine LeO.ite ?_ ?_
      | refine LeO.bind ?_ (fun _ => ?_)
set_option maxHeartbeats 8000000 in
set_option maxRecDepth 100000 in
theorem repriseref11_at.calls (k : Nat) (a0 : ByteArray) (a1 : ByteArray) (r : Int) (w : World) (h : repriseref11_at.f k a0 a1 = some r) :
    Calls Try.prog 29 #[.string a0, .string a1] w fun e w' => e = .returned (.int .i64 r) ∧ Drawn0 w w' := by
  have H : (repriseref11_at.l0 k a0 a1 0) = some r := h
  clear h
  have H' := Aside0.mk H
  clear H
  go_enter Try.func29, Try.ntmps29
  go_wp2
  go_loopg [5] k (fun kq v5 w' => ∃ (x5_1 : Int), v5 = .int .i64 x5_1 ∧ Aside0 (repriseref11_at.l0 kq a0 a1 x5_1 = some r) ∧ Aside0 (kq ≤ k) ∧ Drawn0 w w')
  case atStart => exact ⟨(0), (by first | rfl | (simp; done) | (simp [*]; done)), H', ⟨Nat.le_refl _⟩, by repeat (first | exact Drawn0.refl _ | apply Drawn0.step)⟩
  case round =>
    clear H'
    try clear c2
    try clear p2
    obtain ⟨x5_1, rfl, HA, HK1, ⟨m1, rfl⟩⟩ := hrel
    cases gk with
    | zero => exact absurd HA.out (by simp [repriseref11_at.l0])
    | succ k1 =>
      have H := HA.out
      clear HA
      simp only [repriseref11_at.l0] at H
      by_cases c3 : (wrap64 (x5_1 + (a1.size : Int))) ≤ (a0.size : Int)
      · rw [if_pos c3] at H
        have c3b0 : decide ((wrap64 (x5_1 + (a1.size : Int))) ≤ (a0.size : Int)) = true := decide_eq_true c3
        clear c3
        by_cases c4 : 0 ≤ x5_1
        · rw [if_pos c4] at H
          have c4b0 := eq_true c4
          have c4b1 : decide (0 ≤ x5_1) = true := decide_eq_true c4
          clear c4
          by_cases c5 : x5_1 ≤ (wrap64 (x5_1 + (a1.size : Int)))
          · rw [if_pos c5] at H
            have c5b0 := eq_true c5
            have c5b1 : decide (x5_1 ≤ (wrap64 (x5_1 + (a1.size : Int)))) = true := decide_eq_true c5
            have c6b0 := eq_true (of_decide_eq_true (by first | (with_reducible assumption) | assumption) : (wrap64 (x5_1 + (a1.size : Int))) ≤ (a0.size : Int))
            by_cases c7 : (a0.extract (x5_1 : Int).toNat ((wrap64 (x5_1 + (a1.size : Int))) : Int).toNat).toList = a1.toList
            · rw [if_pos c7] at H
              have c7b0 : ((a0.extract (x5_1 : Int).toNat ((wrap64 (x5_1 + (a1.size : Int))) : Int).toNat).toList == a1.toList) = true := beq_iff_eq.mpr c7
              have c7b1 : ((a0.extract (x5_1 : Int).toNat ((wrap64 (x5_1 + (a1.size : Int))) : Int).toNat).toList != a1.toList) = false := bne_eq_false_iff_eq.mpr c7
              clear c7
              obtain rfl := Option.some.inj H
              go_wp2
              go_ret
              exact ⟨by first | rfl | (simp; done) | (simp [*]; done), by repeat (first | exact Drawn0.refl _ | apply Drawn0.step)⟩
            · rw [if_neg c7] at H
              have c7b0 : ((a0.extract (x5_1 : Int).toNat ((wrap64 (x5_1 + (a1.size : Int))) : Int).toNat).toList == a1.toList) = false := beq_eq_false_iff_ne.mpr c7
              have c7b1 : ((a0.extract (x5_1 : Int).toNat ((wrap64 (x5_1 + (a1.size : Int))) : Int).toNat).toList != a1.toList) = true := bne_iff_ne.mpr c7
              have H' := Aside0.mk H
              clear H
              go_wp2
              go_roundg k1
              case measure => have := HK1.out; omega
              case rel => exact ⟨(wrap64 (x5_1 + 1)), (by first | rfl | (simp; done) | (simp [*]; done)), H', ⟨by have := HK1.out; omega⟩, by repeat (first | exact Drawn0.refl _ | apply Drawn0.step)⟩
          · rw [if_neg c5] at H
            exact absurd H (by simp)
        · rw [if_neg c4] at H
          exact absurd H (by simp)
      · rw [if_neg c3] at H
        have c3b0 : decide ((wrap64 (x5_1 + (a1.size : Int))) ≤ (a0.size : Int)) = false := decide_eq_false c3
        clear c3
        obtain rfl := Option.some.inj H
        go_wp2
        go_ret
        exact ⟨by first | rfl | (simp; done) | (simp [*]; done), by repeat (first | exact Drawn0.refl _ | apply Drawn0.step)⟩

/-! ### repriseref11_Find: function 34 -/
mutual
def repriseref11_Find.l0 : Nat → List ByteArray → ByteArray → Int → Option (Int)
  | 0, _, _, _ => none
  | k + 1, x0, x1, x9 => if x9 ≥ 0 then (if 0 ≤ x9 then (if x9 < (x0.length : Int) then ((repriseref11_at.f k (rdOf ByteArray.empty x0 x9) x1).bind fun t327 => (if t327 ≥ 0 then (some x9) else (repriseref11_Find.l0 k x0 x1 (wrap64 (x9 - 1))))) else (none)) else (none)) else (some (-1))
def repriseref11_Find.l1 : Nat → List ByteArray → ByteArray → Int → Option (Int)
  | 0, _, _, _ => none
  | k + 1, x0, x1, x10 => if x10 < (x0.length : Int) then (if 0 ≤ x10 then ((repriseref11_at.f k (rdOf ByteArray.empty x0 x10) x1).bind fun t329 => (if t329 ≥ 0 then (some x10) else (repriseref11_Find.l1 k x0 x1 (wrap64 (x10 + 1))))) else (none)) else (some (-1))
end
def repriseref11_Find.f (k : Nat) (l0 : List ByteArray) (a1 : ByteArray) (a2 : Int) (a3 : Bool) : Option (Int) := if a1.toList = ([] : List UInt8) then (some (-1)) else (if a3 = true then (repriseref11_Find.l0 k l0 a1 (mn a2 (wrap64 ((l0.length : Int) - 1)))) else (repriseref11_Find.l1 k l0 a1 (mx a2 0)))
theorem repriseref11_Find.mono_l : ∀ k, (∀ y0 y1 y2, LeO (repriseref11_Find.l0 k y0 y1 y2) (repriseref11_Find.l0 (k + 1) y0 y1 y2)) ∧ (∀ y0 y1 y2, LeO (repriseref11_Find.l1 k y0 y1 y2) (repriseref11_Find.l1 (k + 1) y0 y1 y2))
  | 0 => ⟨fun _ _ _ r h => by simp [repriseref11_Find.l0] at h, fun _ _ _ r h => by simp [repriseref11_Find.l1] at h⟩
  | k + 1 => by
    obtain ⟨ih0, ih1⟩ := repriseref11_Find.mono_l k
    refine ⟨?_, ?_⟩
    · intro y0 y1 y2
      unfold repriseref11_Find.l0
      repeat' first
      | (with_reducible exact ih0 _ _ _)
      | (with_reducible exact ih1 _ _ _)
      | (with_reducible exact repriseref11_at.mono _ _ _)
      | (with_reducible exact LeO.refl _)
      | (with_reducible exact LeO.none _)
      | (with_reducible refine LeO.ite ?_ ?_)
      | (with_reducible refine LeO.bind ?_ (fun _ => ?_))
      | exact ih0 _ _ _
      | exact ih1 _ _ _
      | exact repriseref11_at.mono _ _ _
      | exact LeO.none _
      | refine LeO.ite ?_ ?_
      | refine LeO.bind ?_ (fun _ => ?_)
    · intro y0 y1 y2
      unfold repriseref11_Find.l1
      repeat' first
      | (with_reducible exact ih0 _ _ _)
      | (with_reducible exact ih1 _ _ _)
      | (with_reducible exact repriseref11_at.mono _ _ _)
      | (with_reducible exact LeO.refl _)
      | (with_reducible exact LeO.none _)
      | (with_reducible refine LeO.ite ?_ ?_)
      | (with_reducible refine LeO.bind ?_ (fun _ => ?_))
      | exact ih0 _ _ _
      | exact ih1 _ _ _
      | exact repriseref11_at.mono _ _ _
      | exact LeO.none _
      | refine LeO.ite ?_ ?_
      | refine LeO.bind ?_ (fun _ => ?_)
theorem repriseref11_Find.mono : ∀ a0 a1 a2 a3 k, LeO (repriseref11_Find.f k a0 a1 a2 a3) (repriseref11_Find.f (k + 1) a0 a1 a2 a3) := by
  intro a0 a1 a2 a3 k
  obtain ⟨ih0, ih1⟩ := repriseref11_Find.mono_l k
  unfold repriseref11_Find.f
  repeat' first
      | (with_reducible exact ih0 _ _ _)
      | (with_reducible exact ih1 _ _ _)
      | (with_reducible exact repriseref11_at.mono _ _ _)
      | (with_reducible exact LeO.refl _)
      | (with_reducible exact LeO.none _)
      | (with_reducible refine LeO.ite ?_ ?_)
      | (with_reducible refine LeO.bind ?_ (fun _ => ?_))
      | exact ih0 _ _ _
      | exact ih1 _ _ _
      | exact repriseref11_at.mono _ _ _
      | exact LeO.none _
      | refine LeO.ite ?_ ?_
      | refine LeO.bind ?_ (fun _ => ?_)
set_option maxHeartbeats 8000000 in
set_option maxRecDepth 100000 in
theorem repriseref11_Find.calls (k : Nat) (A0 : Option Addr) (c0 : Nat) (l0 : List ByteArray) (a1 : ByteArray) (a2 : Int) (a3 : Bool) (r : Int) (w : World) (hr0 : Kd.C Kd.string w A0 l0.length l0) (hc0 : l0.length ≤ c0) (h : repriseref11_Find.f k l0 a1 a2 a3 = some r) :
    Calls Try.prog 34 #[.slice A0 l0.length c0, .string a1, .int .i64 a2, .bool a3] w fun e w' => e = .returned (.int .i64 r) ∧ Below w.heap.size w w' := by
  have HR0 := Aside0.mk hr0
  have HC0 := Aside0.mk hc0
  clear hr0 hc0
  have HB := Aside0.mk (Below.refl w.heap.size w)
  have H : (if a1.toList = ([] : List UInt8) then (some (-1)) else (if a3 = true then (repriseref11_Find.l0 k l0 a1 (mn a2 (wrap64 ((l0.length : Int) - 1)))) else (repriseref11_Find.l1 k l0 a1 (mx a2 0)))) = some r := h
  clear h
  by_cases c5 : a1.toList = ([] : List UInt8)
  · rw [if_pos c5] at H
    have c5b0 : (a1.toList == ([] : List UInt8)) = true := beq_iff_eq.mpr c5
    have c5b1 : (a1.toList != ([] : List UInt8)) = false := bne_eq_false_iff_eq.mpr c5
    clear c5
    obtain rfl := Option.some.inj H
    go_enter Try.func34, Try.ntmps34
    go_wp2
    go_ret
    exact ⟨by first | rfl | (simp [errW_none, errW_some] <;> rfl) | (simp [*, errW_none, errW_some] <;> rfl), by repeat (first | (with_reducible first | exact HB.out | apply below_alloc | apply pw_below_drewN | apply below_drew1) | exact HB.out)⟩
  · rw [if_neg c5] at H
    have c5b0 : (a1.toList == ([] : List UInt8)) = false := beq_eq_false_iff_ne.mpr c5
    have c5b1 : (a1.toList != ([] : List UInt8)) = true := bne_iff_ne.mpr c5
    by_cases c6 : a3 = true
    · subst c6
      have H1 : (repriseref11_Find.l0 k l0 a1 (mn a2 (wrap64 ((l0.length : Int) - 1)))) = some r := by rw [if_pos rfl] at H; exact H
      clear H
      have H := H1
      clear H1
      obtain ⟨ji7, hji7⟩ : ∃ j_ : Int, (mn a2 (wrap64 ((l0.length : Int) - 1))) = j_ := ⟨_, rfl⟩
      replace H : (repriseref11_Find.l0 k l0 a1 ji7) = some r := by first | (rw [hji7] at H; exact H) | (simp only [hji7] at H ⊢; exact H)
      have hji7_ : (if (wrap64 ((l0.length : Int) - 1)) < a2 then (wrap64 ((l0.length : Int) - 1)) else a2) = ji7 := hji7
      have H' := Aside0.mk H
      clear H
      go_enter Try.func34, Try.ntmps34
      go_wp2
      go_loopg [9] k (fun kq v9 w' => ∃ (x9_1 : Int), v9 = .int .i64 x9_1 ∧ Aside0 (repriseref11_Find.l0 kq l0 a1 x9_1 = some r) ∧ Aside0 (kq ≤ k) ∧ Aside0 (Below w.heap.size w w'))
      case atStart => exact ⟨(ji7), (by first | rfl | (simp; done) | (simp only [← hji7] <;> (first | rfl | simp)) | (simp [*]; done)), H', ⟨Nat.le_refl _⟩, ⟨by repeat (first | (with_reducible first | exact HB.out | apply below_alloc | apply pw_below_drewN | apply below_drew1) | exact HB.out)⟩⟩
      case round =>
        clear H'
        try clear p2
        try clear c3
        try clear c5
        try clear c5b0
        try clear c5b1
        try clear c6
        try clear p6
        obtain ⟨x9_1, rfl, HA, HK1, HB⟩ := hrel
        cases gk with
        | zero => exact absurd HA.out (by simp [repriseref11_Find.l0])
        | succ k1 =>
          have H := HA.out
          clear HA
          simp only [repriseref11_Find.l0] at H
          by_cases c8 : x9_1 ≥ 0
          · rw [if_pos c8] at H
            have c8b0 : decide (0 ≤ x9_1) = true := decide_eq_true c8
            clear c8
            by_cases c9 : 0 ≤ x9_1
            · rw [if_pos c9] at H
              have c9b0 : decide (0 ≤ x9_1) = true := decide_eq_true c9
              clear c9
              by_cases c10 : x9_1 < (l0.length : Int)
              · rw [if_pos c10] at H
                have c10b0 : decide (x9_1 < (l0.length : Int)) = true := decide_eq_true c10
                clear c10
                replace H := Option.bind_eq_some_iff.mp H
                obtain ⟨t327, A110, H⟩ := H
                replace H : (if t327 ≥ 0 then (some x9_1) else (repriseref11_Find.l0 k1 l0 a1 (wrap64 (x9_1 - 1)))) = some r := H
                have A11 := Aside0.mk A110
                clear A110
                by_cases c12 : t327 ≥ 0
                · rw [if_pos c12] at H
                  have c12b0 : decide (0 ≤ t327) = true := decide_eq_true c12
                  clear c12
                  obtain rfl := Option.some.inj H
                  have p326 : 0 ≤ (x9_1 : Int) := of_decide_eq_true (by first | (with_reducible assumption) | assumption)
                  have q326 : x9_1 < (l0.length : Int) := of_decide_eq_true (by first | (with_reducible assumption) | assumption)
                  obtain ⟨ad326, e326, hx326_0⟩ := Kd.at_string HR0.out x9_1 p326 q326
                  cases e326
                  replace hx326_0 := (HB.out.cell (World.block_lt_of_cell? w _ hx326_0)).trans hx326_0
                  replace p326 := eq_true p326
                  replace q326 := eq_true q326
                  go_wp2_with (first | ((with_reducible refine gate_callee (f := 29) rfl ?_); refine goesL_ (some 28) rfl rfl Try.func29 (by kernel_rfl) rfl #[.string (rdOf ByteArray.empty l0 x9_1), .string a1] rfl (by (try simp only [List.map_toArray, List.map_cons, List.map_nil]); first | done | rfl | (simp only [List.length_drop, List.length_take]; rfl)) ?_; (with_reducible refine (repriseref11_at.calls k1 (rdOf ByteArray.empty l0 x9_1) a1 t327 _ A11.out).mono ?_); rintro e w' ⟨rfl, ⟨nd, rfl⟩⟩; refine ⟨_, rfl, ?_⟩))
                  go_ret
                  exact ⟨by first | rfl | (simp [errW_none, errW_some] <;> rfl) | (simp only [← hji7]; first | rfl | (simp [errW_none, errW_some] <;> rfl)) | (simp [*, errW_none, errW_some] <;> rfl), by repeat (first | (with_reducible first | exact HB.out | apply below_alloc | apply pw_below_drewN | apply below_drew1) | exact HB.out)⟩
                · rw [if_neg c12] at H
                  have c12b0 : decide (0 ≤ t327) = false := decide_eq_false c12
                  clear c12
                  have H' := Aside0.mk H
                  clear H
                  have p326 : 0 ≤ (x9_1 : Int) := of_decide_eq_true (by first | (with_reducible assumption) | assumption)
                  have q326 : x9_1 < (l0.length : Int) := of_decide_eq_true (by first | (with_reducible assumption) | assumption)
                  obtain ⟨ad326, e326, hx326_0⟩ := Kd.at_string HR0.out x9_1 p326 q326
                  cases e326
                  replace hx326_0 := (HB.out.cell (World.block_lt_of_cell? w _ hx326_0)).trans hx326_0
                  replace p326 := eq_true p326
                  replace q326 := eq_true q326
                  go_wp2_with (first | ((with_reducible refine gate_callee (f := 29) rfl ?_); refine goesL_ (some 28) rfl rfl Try.func29 (by kernel_rfl) rfl #[.string (rdOf ByteArray.empty l0 x9_1), .string a1] rfl (by (try simp only [List.map_toArray, List.map_cons, List.map_nil]); first | done | rfl | (simp only [List.length_drop, List.length_take]; rfl)) ?_; (with_reducible refine (repriseref11_at.calls k1 (rdOf ByteArray.empty l0 x9_1) a1 t327 _ A11.out).mono ?_); rintro e w' ⟨rfl, ⟨nd, rfl⟩⟩; refine ⟨_, rfl, ?_⟩))
                  go_roundg k1
                  case measure => have := HK1.out; omega
                  case rel => exact ⟨(wrap64 (x9_1 - 1)), (by first | rfl | (simp; done) | (simp [*]; done)), H', ⟨by have := HK1.out; omega⟩, ⟨by repeat (first | (with_reducible first | exact HB.out | apply below_alloc | apply pw_below_drewN | apply below_drew1) | exact HB.out)⟩⟩
              · rw [if_neg c10] at H
                exact absurd H (by simp)
            · rw [if_neg c9] at H
              exact absurd H (by simp)
          · rw [if_neg c8] at H
            have c8b0 : decide (0 ≤ x9_1) = false := decide_eq_false c8
            clear c8
            obtain rfl := Option.some.inj H
            go_wp2
            go_ret
            exact ⟨by first | rfl | (simp [errW_none, errW_some] <;> rfl) | (simp only [← hji7]; first | rfl | (simp [errW_none, errW_some] <;> rfl)) | (simp [*, errW_none, errW_some] <;> rfl), by repeat (first | (with_reducible first | exact HB.out | apply below_alloc | apply pw_below_drewN | apply below_drew1) | exact HB.out)⟩
    · replace c6 := Bool.eq_false_iff.mpr c6
      subst c6
      have H1 : (repriseref11_Find.l1 k l0 a1 (mx a2 0)) = some r := by rw [if_neg (show ¬ (false = true) by decide)] at H; exact H
      clear H
      have H := H1
      clear H1
      obtain ⟨ji13, hji13⟩ : ∃ j_ : Int, (mx a2 0) = j_ := ⟨_, rfl⟩
      replace H : (repriseref11_Find.l1 k l0 a1 ji13) = some r := by first | (rw [hji13] at H; exact H) | (simp only [hji13] at H ⊢; exact H)
      (try (have hji13l : 0 ≤ ji13 := by (rw [← hji13]; unfold mx; (repeat' split) <;> omega)))
      (try (have hji13m : 0 ≤ ji13 := by omega))
      have hji13_ : (if a2 < 0 then 0 else a2) = ji13 := hji13
      have H' := Aside0.mk H
      clear H
      go_enter Try.func34, Try.ntmps34
      go_wp2
      go_loopg [10] k (fun kq v10 w' => ∃ (x10_1 : Int), v10 = .int .i64 x10_1 ∧ Aside0 (repriseref11_Find.l1 kq l0 a1 x10_1 = some r) ∧ Aside0 (kq ≤ k) ∧ Aside0 (Below w.heap.size w w'))
      case atStart => exact ⟨(ji13), (by first | rfl | (simp; done) | (simp only [← hji13] <;> (first | rfl | simp)) | (simp [*]; done)), H', ⟨Nat.le_refl _⟩, ⟨by repeat (first | (with_reducible first | exact HB.out | apply below_alloc | apply pw_below_drewN | apply below_drew1) | exact HB.out)⟩⟩
      case round =>
        clear H'
        try clear c1
        try clear c2
        try clear p2
        try clear c3
        try clear p3
        try clear q3
        try clear hx3
        try clear c5
        try clear c5b0
        try clear c5b1
        try clear c6
        try clear p6
        try clear c8
        try clear c8b0
        try clear c9
        try clear c9b0
        try clear c10
        try clear c10b0
        try clear c12
        try clear c12b0
        try clear hx326_0
        try clear p2
        try clear p326
        try clear p6
        try clear q326
        obtain ⟨x10_1, rfl, HA, HK1, HB⟩ := hrel
        cases gk with
        | zero => exact absurd HA.out (by simp [repriseref11_Find.l1])
        | succ k1 =>
          have H := HA.out
          clear HA
          simp only [repriseref11_Find.l1] at H
          by_cases c14 : x10_1 < (l0.length : Int)
          · rw [if_pos c14] at H
            have c14b0 : decide (x10_1 < (l0.length : Int)) = true := decide_eq_true c14
            clear c14
            by_cases c15 : 0 ≤ x10_1
            · rw [if_pos c15] at H
              have c15b0 : decide (0 ≤ x10_1) = true := decide_eq_true c15
              clear c15
              replace H := Option.bind_eq_some_iff.mp H
              obtain ⟨t329, A160, H⟩ := H
              replace H : (if t329 ≥ 0 then (some x10_1) else (repriseref11_Find.l1 k1 l0 a1 (wrap64 (x10_1 + 1)))) = some r := H
              have A16 := Aside0.mk A160
              clear A160
              by_cases c17 : t329 ≥ 0
              · rw [if_pos c17] at H
                have c17b0 : decide (0 ≤ t329) = true := decide_eq_true c17
                clear c17
                obtain rfl := Option.some.inj H
                have p328 : 0 ≤ (x10_1 : Int) := of_decide_eq_true (by first | (with_reducible assumption) | assumption)
                have q328 : x10_1 < (l0.length : Int) := of_decide_eq_true (by first | (with_reducible assumption) | assumption)
                obtain ⟨ad328, e328, hx328_0⟩ := Kd.at_string HR0.out x10_1 p328 q328
                cases e328
                replace hx328_0 := (HB.out.cell (World.block_lt_of_cell? w _ hx328_0)).trans hx328_0
                replace p328 := eq_true p328
                replace q328 := eq_true q328
                go_wp2_with (first | ((with_reducible refine gate_callee (f := 29) rfl ?_); refine goesL_ (some 44) rfl rfl Try.func29 (by kernel_rfl) rfl #[.string (rdOf ByteArray.empty l0 x10_1), .string a1] rfl (by (try simp only [List.map_toArray, List.map_cons, List.map_nil]); first | done | rfl | (simp only [List.length_drop, List.length_take]; rfl)) ?_; (with_reducible refine (repriseref11_at.calls k1 (rdOf ByteArray.empty l0 x10_1) a1 t329 _ A16.out).mono ?_); rintro e w' ⟨rfl, ⟨nd, rfl⟩⟩; refine ⟨_, rfl, ?_⟩))
                go_ret
                exact ⟨by first | rfl | (simp [errW_none, errW_some] <;> rfl) | (simp only [← hji13]; first | rfl | (simp [errW_none, errW_some] <;> rfl)) | (simp [*, errW_none, errW_some] <;> rfl), by repeat (first | (with_reducible first | exact HB.out | apply below_alloc | apply pw_below_drewN | apply below_drew1) | exact HB.out)⟩
              · rw [if_neg c17] at H
                have c17b0 : decide (0 ≤ t329) = false := decide_eq_false c17
                clear c17
                have H' := Aside0.mk H
                clear H
                have p328 : 0 ≤ (x10_1 : Int) := of_decide_eq_true (by first | (with_reducible assumption) | assumption)
                have q328 : x10_1 < (l0.length : Int) := of_decide_eq_true (by first | (with_reducible assumption) | assumption)
                obtain ⟨ad328, e328, hx328_0⟩ := Kd.at_string HR0.out x10_1 p328 q328
                cases e328
                replace hx328_0 := (HB.out.cell (World.block_lt_of_cell? w _ hx328_0)).trans hx328_0
                replace p328 := eq_true p328
                replace q328 := eq_true q328
                go_wp2_with (first | ((with_reducible refine gate_callee (f := 29) rfl ?_); refine goesL_ (some 44) rfl rfl Try.func29 (by kernel_rfl) rfl #[.string (rdOf ByteArray.empty l0 x10_1), .string a1] rfl (by (try simp only [List.map_toArray, List.map_cons, List.map_nil]); first | done | rfl | (simp only [List.length_drop, List.length_take]; rfl)) ?_; (with_reducible refine (repriseref11_at.calls k1 (rdOf ByteArray.empty l0 x10_1) a1 t329 _ A16.out).mono ?_); rintro e w' ⟨rfl, ⟨nd, rfl⟩⟩; refine ⟨_, rfl, ?_⟩))
                go_roundg k1
                case measure => have := HK1.out; omega
                case rel => exact ⟨(wrap64 (x10_1 + 1)), (by first | rfl | (simp; done) | (simp [*]; done)), H', ⟨by have := HK1.out; omega⟩, ⟨by repeat (first | (with_reducible first | exact HB.out | apply below_alloc | apply pw_below_drewN | apply below_drew1) | exact HB.out)⟩⟩
            · rw [if_neg c15] at H
              exact absurd H (by simp)
          · rw [if_neg c14] at H
            have c14b0 : decide (x10_1 < (l0.length : Int)) = false := decide_eq_false c14
            clear c14
            obtain rfl := Option.some.inj H
            go_wp2
            go_ret
            exact ⟨by first | rfl | (simp [errW_none, errW_some] <;> rfl) | (simp only [← hji13]; first | rfl | (simp [errW_none, errW_some] <;> rfl)) | (simp [*, errW_none, errW_some] <;> rfl), by repeat (first | (with_reducible first | exact HB.out | apply below_alloc | apply pw_below_drewN | apply below_drew1) | exact HB.out)⟩

/-! ### repriseref11_look: function 27 -/
def repriseref11_look.f (k : Nat) (l0 : List ByteArray) (a1_0 : Bool) (a1_1 : Bool) (l1_2 : List Int) (a1_3 : Int) (a1_4 : Bool) (a2 : Int) : Option (Bool × Bool × List Int × Int × Bool) := (repriseref1_Text.f k l1_2).bind fun t332 => ((repriseref11_Find.f k l0 t332 a2 a1_1).bind fun t333 => (if t333 ≥ 0 then (some (a1_0, a1_1, l1_2, t333, decide (t333 < 0))) else (some (a1_0, a1_1, l1_2, a1_3, decide (t333 < 0)))))
theorem repriseref11_look.mono : ∀ a0 a1 a2 a3 a4 a5 a6 k, LeO (repriseref11_look.f k a0 a1 a2 a3 a4 a5 a6) (repriseref11_look.f (k + 1) a0 a1 a2 a3 a4 a5 a6) := by
  intro a0 a1 a2 a3 a4 a5 a6 k
  unfold repriseref11_look.f
  repeat' first
      | (with_reducible exact repriseref11_Find.mono _ _ _ _ _)
      | (with_reducible exact repriseref1_Text.mono _ _)
      | (with_reducible exact LeO.refl _)
      | (with_reducible exact LeO.none _)
      | (with_reducible refine LeO.ite ?_ ?_)
      | (with_reducible refine LeO.bind ?_ (fun _ => ?_))
      | exact repriseref11_Find.mono _ _ _ _ _
      | exact repriseref1_Text.mono _ _
      | exact LeO.none _
      | refine LeO.ite ?_ ?_
      | refine LeO.bind ?_ (fun _ => ?_)
def repriseref11_look.T1 : Bool × List (List Nat × List Nat) := (true, [([], []), ([], []), ([1], [1]), ([2], [2]), ([], []), ([], []), ([5], [5]), ([0, 3, 4, 6, 3], [0, 3, 4, 6]), ([7, 7, 0, 1, 2, 3, 4, 5, 6, 7], [7])])
def repriseref11_look.B1 : List Nat := [0, 0, 2, 6, 0, 0, 32, 127, 255]
theorem repriseref11_look.tab1 : rtab .any (opsOf Try.f27 1) = repriseref11_look.T1 := by kernel_rfl
theorem repriseref11_look.bits1 : waitsOk repriseref11_look.T1.2 repriseref11_look.B1 = true := by kernel_rfl
set_option maxHeartbeats 8000000 in
set_option maxRecDepth 100000 in
theorem repriseref11_look.calls (k : Nat) (A0 : Option Addr) (c0 : Nat) (l0 : List ByteArray) (a1_0 : Bool) (a1_1 : Bool) (P1_2_ : Nat → Prop) (u9000_ : Value) (l1_2 : List Int) (a1_3 : Int) (a1_4 : Bool) (a2 : Int) (r1 : Bool) (r2 : Bool) (r3 : List Int) (r4 : Int) (r5 : Bool) (w0 w : World) (hB : Below w0.heap.size w0 w) (hr0 : ∀ W_, Kept w W_ (fun k_ => P1_2_ k_) → Kd.C Kd.string W_ A0 l0.length l0) (hc0 : l0.length ≤ c0) (ho1_2 : Kd.R (Kd.int .i32) 21 w w0.heap.size P1_2_ u9000_ l1_2) (h : repriseref11_look.f k l0 a1_0 a1_1 l1_2 a1_3 a1_4 a2 = some (r1, r2, r3, r4, r5)) :
    Calls Try.prog 27 #[.slice A0 l0.length c0, .agg #[.bool a1_0, .bool a1_1, u9000_, .int .i64 a1_3, .bool a1_4], .int .i64 a2] w fun e w' => ∃ v2_ : Value, e = .returned (.agg #[.bool r1, .bool r2, v2_, .int .i64 r4, .bool r5]) ∧ Kd.R (Kd.int .i32) 21 w' w0.heap.size (fun k_ => (P1_2_ k_ ∨ w.heap.size ≤ k_)) v2_ r3 ∧ Below w0.heap.size w0 w' ∧ Kept w w' (fun k_ => P1_2_ k_) := by
  have hu29 := Try.underlying29
  have HR0 := Aside0.mk hr0
  have HC0 := Aside0.mk hc0
  clear hr0 hc0
  have HO1_2 := Aside0.mk (show Kd.R (Kd.int .i32) 21 w w0.heap.size (fun k_ => (P1_2_ k_ ∨ w.heap.size ≤ k_)) u9000_ l1_2 from Kd.R_mono ho1_2 (fun k_ hk => (.inl hk)))
  have HK := Aside0.mk (Kept.refl w (fun k_ => P1_2_ k_))
  have HW0 := Aside0.mk hB.size
  have HB := Aside0.mk hB
  clear hB
  have H : ((repriseref1_Text.f k l1_2).bind fun t332 => ((repriseref11_Find.f k l0 t332 a2 a1_1).bind fun t333 => (if t333 ≥ 0 then (some (a1_0, a1_1, l1_2, t333, decide (t333 < 0))) else (some (a1_0, a1_1, l1_2, a1_3, decide (t333 < 0)))))) = some (r1, r2, r3, r4, r5) := h
  clear h
  replace H := Option.bind_eq_some_iff.mp H
  obtain ⟨t332, A40, H⟩ := H
  replace H : ((repriseref11_Find.f k l0 t332 a2 a1_1).bind fun t333 => (if t333 ≥ 0 then (some (a1_0, a1_1, l1_2, t333, decide (t333 < 0))) else (some (a1_0, a1_1, l1_2, a1_3, decide (t333 < 0))))) = some (r1, r2, r3, r4, r5) := H
  have A4 := Aside0.mk A40
  clear A40
  replace H := Option.bind_eq_some_iff.mp H
  obtain ⟨t333, A50, H⟩ := H
  replace H : (if t333 ≥ 0 then (some (a1_0, a1_1, l1_2, t333, decide (t333 < 0))) else (some (a1_0, a1_1, l1_2, a1_3, decide (t333 < 0)))) = some (r1, r2, r3, r4, r5) := H
  have A5 := Aside0.mk A50
  clear A50
  by_cases c6 : t333 ≥ 0
  · rw [if_pos c6] at H
    have c6b0 : decide (0 ≤ t333) = true := decide_eq_true c6
    clear c6
    simp only [Option.some.injEq, Prod.mk.injEq] at H
    obtain ⟨rfl, rfl, rfl, rfl, rfl⟩ := H
    obtain ⟨Ao7, co7, eo7⟩ := Kd.R_slice HO1_2.out
    subst eo7
    go_enter Try.func27, Try.ntmps27
    try go_wp2_with (first | ((with_reducible refine gate_dst (N := 4) rfl ?_); refine box_event ?hg (N := 4) ?hd (cs := #[.bool a1_0, .bool a1_1, .slice Ao7 l1_2.length co7, .int .i64 a1_3, .bool a1_4]) (t := 29) ?hr ?_; (case hd => rfl); (case hg => rfl); (case hr => first | (go_simp; done) | (go_simp; rfl)); intro gb330 hg w8 hbox hb; have n0_ := Aside0.mk (Kd.R_below (by (with_reducible repeat (first | apply Kd.R_alloc | apply Kd.R_drewN | apply Kd.R_drew)); exact HO1_2.out) hb); have n1_ := Aside0.mk (Kept.below (S := (fun k_ => P1_2_ k_)) (by repeat (first | (with_reducible first | exact HK.out | apply Kept.alloc | apply Kept.drewN | apply Kept.drew) | exact HK.out)) hb); have n2_ := Aside0.mk (below_step (by repeat (first | (with_reducible first | exact HB.out | apply below_alloc | apply pw_below_drewN | apply below_drew1) | exact HB.out)) hb); have n3_ := Aside0.mk (hbox); have n4_ := Aside0.mk ((by rw [hg]; exact (by first | exact HK.out.1 | exact (show Kept w _ (fun k_ => P1_2_ k_) from by repeat (first | (with_reducible first | exact HK.out | apply Kept.alloc | apply Kept.drewN | apply Kept.drew) | exact HK.out)).1) : w.heap.size ≤ gb330)); have n5_ := Aside0.mk ((by rw [hg]; exact (below_size (by repeat (first | (with_reducible first | exact HB.out | apply below_alloc | apply pw_below_drewN | apply below_drew1) | exact HB.out))) : w0.heap.size ≤ gb330)); clear HO1_2; clear HK; clear HB; have HO1_2 := n0_; have HK := n1_; have HB := n2_; have BK330 := n3_; have GW330 := n4_; have GE330 := n5_; clear n0_ n1_ n2_ n3_ n4_ n5_; clear hb hbox hg) | ((with_reducible refine gate_dst (N := 6) rfl ?_); refine box_event ?hg (N := 6) ?hd (cs := #[.bool false, .bool false, .slice none 0 0, .int .i64 0, .bool false]) (t := 29) ?hr ?_; (case hd => rfl); (case hg => rfl); (case hr => first | (go_simp; done) | (go_simp; rfl)); intro gb331 hg w9 hbox hb; have n0_ := Aside0.mk (Kd.R_below (by (with_reducible repeat (first | apply Kd.R_alloc | apply Kd.R_drewN | apply Kd.R_drew)); exact HO1_2.out) hb); have n1_ := Aside0.mk (blk_below (g := gb330) (o := .cells #[.bool a1_0, .bool a1_1, .slice Ao7 l1_2.length co7, .int .i64 a1_3, .bool a1_4] 29 (0, 0)) (by (with_reducible repeat (first | refine blk_drewN ?_ _ | refine blk_drew ?_ | refine blk_alloc ?_ _)); exact BK330.out) hb); have n2_ := Aside0.mk (Kept.below (S := (fun k_ => P1_2_ k_)) (by repeat (first | (with_reducible first | exact HK.out | apply Kept.alloc | apply Kept.drewN | apply Kept.drew | refine Kept.setCell ?_ (.inr GW330.out) _) | exact HK.out)) hb); have n3_ := Aside0.mk (below_step (by repeat (first | (with_reducible first | exact HB.out | apply below_alloc | apply pw_below_drewN | apply below_drew1 | refine below_set ?_ GE330.out) | exact HB.out)) hb); have n4_ := Aside0.mk (hbox); have n5_ := Aside0.mk ((by rw [hg]; exact (by first | exact HK.out.1 | exact (show Kept w _ (fun k_ => P1_2_ k_) from by repeat (first | (with_reducible first | exact HK.out | apply Kept.alloc | apply Kept.drewN | apply Kept.drew | refine Kept.setCell ?_ (.inr GW330.out) _) | exact HK.out)).1) : w.heap.size ≤ gb331)); have n6_ := Aside0.mk ((by rw [hg]; exact (below_size (by repeat (first | (with_reducible first | exact HB.out | apply below_alloc | apply pw_below_drewN | apply below_drew1 | refine below_set ?_ GE330.out) | exact HB.out))) : w0.heap.size ≤ gb331)); have n7_ := Aside0.mk ((by rw [hg]; exact Nat.ne_of_lt (blk_lt (g := gb330) (o := .cells #[.bool a1_0, .bool a1_1, .slice Ao7 l1_2.length co7, .int .i64 a1_3, .bool a1_4] 29 (0, 0)) (by (with_reducible repeat (first | refine blk_drewN ?_ _ | refine blk_drew ?_ | refine blk_alloc ?_ _)); exact BK330.out)) : gb330 ≠ gb331)); have n8_ := Aside0.mk ((by rw [hg]; exact Nat.ne_of_gt (blk_lt (g := gb330) (o := .cells #[.bool a1_0, .bool a1_1, .slice Ao7 l1_2.length co7, .int .i64 a1_3, .bool a1_4] 29 (0, 0)) (by (with_reducible repeat (first | refine blk_drewN ?_ _ | refine blk_drew ?_ | refine blk_alloc ?_ _)); exact BK330.out)) : gb331 ≠ gb330)); clear HO1_2; clear BK330; clear HK; clear HB; have HO1_2 := n0_; have BK330 := n1_; have HK := n2_; have HB := n3_; have BK331 := n4_; have GW331 := n5_; have GE331 := n6_; have NB330_331 := n7_; have NB331_330 := n8_; clear n0_ n1_ n2_ n3_ n4_ n5_ n6_ n7_ n8_; clear hb hbox hg))
    have n0_ := Aside0.mk (Kd.R_drew HO1_2.out)
    have n1_ := Aside0.mk (blk_drew BK330.out)
    have n2_ := Aside0.mk (blk_drew BK331.out)
    have n3_ := Aside0.mk (Kept.drew HK.out)
    have n4_ := Aside0.mk (below_drew1 HB.out)
    clear HO1_2
    clear BK330
    clear BK331
    clear HK
    clear HB
    have HO1_2 := n0_
    have BK330 := n1_
    have BK331 := n2_
    have HK := n3_
    have HB := n4_
    clear n0_ n1_ n2_ n3_ n4_
    refine start_ (n := 9) (S := fun w' => w'.cell? ⟨gb330, 0, none⟩ = some (.bool a1_0) ∧ w'.cell? ⟨gb330, 1, none⟩ = some (.bool a1_1) ∧ w'.cell? ⟨gb330, 2, none⟩ = some (.slice Ao7 l1_2.length co7) ∧ w'.cell? ⟨gb330, 3, none⟩ = some (.int .i64 a1_3) ∧ w'.cell? ⟨gb330, 4, none⟩ = some (.bool a1_4)) (ds := []) #[false, false, false, false, false, false, false, false, false] (by kernel_rfl) rfl rfl ⟨(blk_cell BK330.out 0).trans rfl, (blk_cell BK330.out 1).trans rfl, (blk_cell BK330.out 2).trans rfl, (blk_cell BK330.out 3).trans rfl, (blk_cell BK330.out 4).trans rfl⟩ (fun hHeld => ?_); refine with_tabW repriseref11_look.tab1 repriseref11_look.bits1 (fun HT_ HW_ => ?_)
    generalize w9.drew = w10 at HO1_2 BK330 BK331 HK HB hHeld ⊢
    refine pure_ (i := 0) (N := some 8) (v := ?_) (a' := ?_) #[true, false, false, false, false, false, false, false, false] rfl rfl (any_of HT_.out (by kernel_rfl)) (fun _ _ _ h => h) (Or.inl ⟨by rfl, ?_⟩) ?_ ?_
    rotate_left
    · intro w'
      go_simp
      with_reducible rfl
    rotate_left
    · simp only [Act.put, List.setIfInBounds_toArray, List.set_cons_zero, List.set_cons_succ, i64_w, i32_w]
      rfl
    refine pure_ (i := 1) (N := some 9) (v := ?_) (a' := ?_) #[true, true, false, false, false, false, false, false, false] rfl rfl (any_of HT_.out (by kernel_rfl)) (fun _ _ _ h => h) (Or.inl ⟨by rfl, ?_⟩) ?_ ?_
    rotate_left
    · intro w'
      go_simp
      with_reducible rfl
    rotate_left
    · simp only [Act.put, List.setIfInBounds_toArray, List.set_cons_zero, List.set_cons_succ, i64_w, i32_w]
      rfl
    refine pure_ (i := 4) (N := some 12) (v := ?_) (a' := ?_) #[true, true, false, false, true, false, false, false, false] rfl rfl (any_of HT_.out (by kernel_rfl)) (fun _ _ _ h => h) (Or.inl ⟨by rfl, ?_⟩) ?_ ?_
    rotate_left
    · intro w'
      go_simp
      with_reducible rfl
    rotate_left
    · simp only [Act.put, List.setIfInBounds_toArray, List.set_cons_zero, List.set_cons_succ, i64_w, i32_w]
      rfl
    refine pure_ (i := 5) (N := some 13) (v := ?_) (a' := ?_) #[true, true, false, false, true, true, false, false, false] rfl rfl (any_of HT_.out (by kernel_rfl)) (fun _ _ _ h => h) (Or.inl ⟨by rfl, ?_⟩) ?_ ?_
    rotate_left
    · intro w'
      go_simp
      with_reducible rfl
    rotate_left
    · simp only [Act.put, List.setIfInBounds_toArray, List.set_cons_zero, List.set_cons_succ, i64_w, i32_w]
      rfl
    refine take_ (i := 2) (N := some 10) (v := ?_) (a' := ?_) #[true, true, true, false, true, true, false, false, false] rfl rfl (take_ofW HT_.out HW_.out (by kernel_rfl)) (fun _ _ _ h => h) (Or.inl ⟨by rfl, ?_⟩) hHeld ?_ ?_
    rotate_left
    · rintro w' ⟨s0, s1, s2, s3, s4⟩
      go_simp
      with_reducible rfl
    rotate_left
    · simp only [Act.put, List.setIfInBounds_toArray, List.set_cons_zero, List.set_cons_succ, i64_w, i32_w]
      rfl
    refine take_ (i := 6) (N := some 14) (v := ?_) (a' := ?_) #[true, true, true, false, true, true, true, false, false] rfl rfl (take_ofW HT_.out HW_.out (by kernel_rfl)) (fun _ _ _ h => h) (Or.inl ⟨by rfl, ?_⟩) hHeld ?_ ?_
    rotate_left
    · rintro w' ⟨s0, s1, s2, s3, s4⟩
      go_simp
      with_reducible rfl
    rotate_left
    · simp only [Act.put, List.setIfInBounds_toArray, List.set_cons_zero, List.set_cons_succ, i64_w, i32_w]
      rfl
    refine one_ (i := 3) (N := some 11) #[true, true, true, true, true, true, true, false, false] rfl rfl (one_of HT_.out (by kernel_rfl)) (by decide) (fun K hK => ?_)
    refine goes_ Try.func19 (by kernel_rfl) rfl #[.slice Ao7 l1_2.length co7] (by rfl) rfl rfl (by (try simp only [List.map_toArray, List.map_cons, List.map_nil]); first | done | rfl | (simp only [List.length_drop, List.length_take]; rfl)) ?_
    with_reducible refine (repriseref1_Text.calls k _ _ l1_2 t332 _ ?side1 ?side2 A4.out).mono ?_
    (case side1 => repeat (first | exact (Kd.R_reads' HO1_2.out).2.2 | (with_reducible refine Kd.C_alloc ?_ _) | (with_reducible refine Kd.C_drewN ?_ _) | (with_reducible refine Kd.C_drew ?_)))
    (case side2 => exact (Kd.R_reads' HO1_2.out).2.1)
    rintro e w11 ⟨rfl, hb⟩
    refine ⟨_, rfl, ?_⟩
    have n0_ := Aside0.mk (Kd.R_below (by (with_reducible repeat (first | apply Kd.R_alloc | apply Kd.R_drewN | apply Kd.R_drew)); exact HO1_2.out) hb)
    have n1_ := Aside0.mk (blk_below (g := gb330) (o := .cells #[.bool a1_0, .bool a1_1, .slice Ao7 l1_2.length co7, .int .i64 a1_3, .bool a1_4] 29 (0, 0)) (by (with_reducible repeat (first | refine blk_drewN ?_ _ | refine blk_drew ?_ | refine blk_alloc ?_ _)); exact BK330.out) hb)
    have n2_ := Aside0.mk (blk_below (g := gb331) (o := .cells #[.bool false, .bool false, .slice none 0 0, .int .i64 0, .bool false] 29 (0, 0)) (by (with_reducible repeat (first | refine blk_drewN ?_ _ | refine blk_drew ?_ | refine blk_alloc ?_ _)); exact BK331.out) hb)
    have n3_ := Aside0.mk (Kept.below (S := (fun k_ => P1_2_ k_)) (by repeat (first | (with_reducible first | exact HK.out | apply Kept.alloc | apply Kept.drewN | apply Kept.drew | refine Kept.setCell ?_ (.inr GW330.out) _ | refine Kept.setCell ?_ (.inr GW331.out) _) | exact HK.out)) hb)
    have n4_ := Aside0.mk (below_step (by repeat (first | (with_reducible first | exact HB.out | apply below_alloc | apply pw_below_drewN | apply below_drew1 | refine below_set ?_ GE330.out | refine below_set ?_ GE331.out) | exact HB.out)) hb)
    clear HO1_2
    clear BK330
    clear BK331
    clear HK
    clear HB
    have HO1_2 := n0_
    have BK330 := n1_
    have BK331 := n2_
    have HK := n3_
    have HB := n4_
    clear n0_ n1_ n2_ n3_ n4_
    (try clear hb)
    (try clear hb2)
    (try clear hk)
    (try clear hi)
    refine hK.out _ _ ⟨(blk_cell BK330.out 0).trans rfl, (blk_cell BK330.out 1).trans rfl, (blk_cell BK330.out 2).trans rfl, (blk_cell BK330.out 3).trans rfl, (blk_cell BK330.out 4).trans rfl⟩ (fun hHeld => ?_)
    clear hK K
    refine norm_ (a' := ?_) ?_ ?_
    rotate_left
    · show Act.put _ (some 11) _ = _
      simp only [Act.put, List.setIfInBounds_toArray, List.set_cons_zero, List.set_cons_succ, i64_w, i32_w]
      rfl
    refine one_ (i := 7) (N := some 15) #[true, true, true, true, true, true, true, true, false] rfl rfl (one_of HT_.out (by kernel_rfl)) (by decide) (fun K hK => ?_)
    refine goes_ Try.func34 (by kernel_rfl) rfl #[.slice A0 l0.length c0, .string t332, .int .i64 a2, .bool a1_1] (by rfl) rfl rfl (by (try simp only [List.map_toArray, List.map_cons, List.map_nil]); first | done | rfl | (simp only [List.length_drop, List.length_take]; rfl)) ?_
    with_reducible refine (repriseref11_Find.calls k _ _ l0 t332 a2 a1_1 t333 _ ?side1 ?side2 A5.out).mono ?_
    (case side1 => exact Kd.C_kept_now HR0.out (by repeat (first | (with_reducible first | exact HK.out | apply Kept.alloc | apply Kept.drewN | apply Kept.drew | refine Kept.setCell ?_ (.inr GW330.out) _ | refine Kept.setCell ?_ (.inr GW331.out) _) | exact HK.out)))
    (case side2 => exact HC0.out)
    rintro e w12 ⟨rfl, hb⟩
    refine ⟨_, rfl, ?_⟩
    have n0_ := Aside0.mk (Kd.R_below (by (with_reducible repeat (first | apply Kd.R_alloc | apply Kd.R_drewN | apply Kd.R_drew)); exact HO1_2.out) hb)
    have n1_ := Aside0.mk (blk_below (g := gb330) (o := .cells #[.bool a1_0, .bool a1_1, .slice Ao7 l1_2.length co7, .int .i64 a1_3, .bool a1_4] 29 (0, 0)) (by (with_reducible repeat (first | refine blk_drewN ?_ _ | refine blk_drew ?_ | refine blk_alloc ?_ _)); exact BK330.out) hb)
    have n2_ := Aside0.mk (blk_below (g := gb331) (o := .cells #[.bool false, .bool false, .slice none 0 0, .int .i64 0, .bool false] 29 (0, 0)) (by (with_reducible repeat (first | refine blk_drewN ?_ _ | refine blk_drew ?_ | refine blk_alloc ?_ _)); exact BK331.out) hb)
    have n3_ := Aside0.mk (Kept.below (S := (fun k_ => P1_2_ k_)) (by repeat (first | (with_reducible first | exact HK.out | apply Kept.alloc | apply Kept.drewN | apply Kept.drew | refine Kept.setCell ?_ (.inr GW330.out) _ | refine Kept.setCell ?_ (.inr GW331.out) _) | exact HK.out)) hb)
    have n4_ := Aside0.mk (below_step (by repeat (first | (with_reducible first | exact HB.out | apply below_alloc | apply pw_below_drewN | apply below_drew1 | refine below_set ?_ GE330.out | refine below_set ?_ GE331.out) | exact HB.out)) hb)
    clear HO1_2
    clear BK330
    clear BK331
    clear HK
    clear HB
    have HO1_2 := n0_
    have BK330 := n1_
    have BK331 := n2_
    have HK := n3_
    have HB := n4_
    clear n0_ n1_ n2_ n3_ n4_
    (try clear hb)
    (try clear hb2)
    (try clear hk)
    (try clear hi)
    refine hK.out _ _ ⟨(blk_cell BK330.out 0).trans rfl, (blk_cell BK330.out 1).trans rfl, (blk_cell BK330.out 2).trans rfl, (blk_cell BK330.out 3).trans rfl, (blk_cell BK330.out 4).trans rfl⟩ (fun hHeld => ?_)
    clear hK K
    refine norm_ (a' := ?_) ?_ ?_
    rotate_left
    · show Act.put _ (some 15) _ = _
      simp only [Act.put, List.setIfInBounds_toArray, List.set_cons_zero, List.set_cons_succ, i64_w, i32_w]
      rfl
    refine pure_ (i := 8) (N := some 7) (v := ?_) (a' := ?_) #[true, true, true, true, true, true, true, true, true] rfl rfl (any_of HT_.out (by kernel_rfl)) (fun _ _ _ h => h) (Or.inl ⟨by rfl, ?_⟩) ?_ ?_
    rotate_left
    · intro w'
      go_simp
      with_reducible rfl
    rotate_left
    · simp only [Act.put, List.setIfInBounds_toArray, List.set_cons_zero, List.set_cons_succ, i64_w, i32_w]
      rfl
    refine done_ (done_of HT_.out (by kernel_rfl)) ?_
    have hnb13 := NB330_331.out
    have hnc13 := NB331_330.out
    have hcz14_0 : w12.cell? ⟨gb330, 0, none⟩ = some (.bool a1_0) := (blk_cell BK330.out 0).trans rfl
    have hcz14_1 : w12.cell? ⟨gb330, 1, none⟩ = some (.bool a1_1) := (blk_cell BK330.out 1).trans rfl
    have hcz14_2 : w12.cell? ⟨gb330, 2, none⟩ = some (.slice Ao7 l1_2.length co7) := (blk_cell BK330.out 2).trans rfl
    have hcz14_3 : w12.cell? ⟨gb330, 3, none⟩ = some (.int .i64 a1_3) := (blk_cell BK330.out 3).trans rfl
    have hcz14_4 : w12.cell? ⟨gb330, 4, none⟩ = some (.bool a1_4) := (blk_cell BK330.out 4).trans rfl
    have hfz14_0 := blk_frozen BK330.out 0
    have hfz14_1 := blk_frozen BK330.out 1
    have hfz14_2 := blk_frozen BK330.out 2
    have hfz14_3 := blk_frozen BK330.out 3
    have hfz14_4 := blk_frozen BK330.out 4
    have hcz15_0 : w12.cell? ⟨gb331, 0, none⟩ = some (.bool false) := (blk_cell BK331.out 0).trans rfl
    have hcz15_1 : w12.cell? ⟨gb331, 1, none⟩ = some (.bool false) := (blk_cell BK331.out 1).trans rfl
    have hcz15_2 : w12.cell? ⟨gb331, 2, none⟩ = some (.slice none 0 0) := (blk_cell BK331.out 2).trans rfl
    have hcz15_3 : w12.cell? ⟨gb331, 3, none⟩ = some (.int .i64 0) := (blk_cell BK331.out 3).trans rfl
    have hcz15_4 : w12.cell? ⟨gb331, 4, none⟩ = some (.bool false) := (blk_cell BK331.out 4).trans rfl
    have hfz15_0 := blk_frozen BK331.out 0
    have hfz15_1 := blk_frozen BK331.out 1
    have hfz15_2 := blk_frozen BK331.out 2
    have hfz15_3 := blk_frozen BK331.out 3
    have hfz15_4 := blk_frozen BK331.out 4
    try go_wp2_with (first | ((with_reducible refine gate_store (t := 29) (p := 6) rfl ?_); refine store_event (t := 29) (p := 6) (v := ?vo_w16) (w1 := (((((((w12.setCell ⟨gb330, 4, none⟩ (.bool (decide (t333 < 0)))).setCell ⟨gb330, 3, none⟩ (.int .i64 t333)).setCell ⟨gb331, 0, none⟩ (.bool a1_0)).setCell ⟨gb331, 1, none⟩ (.bool a1_1)).setCell ⟨gb331, 2, none⟩ (.slice Ao7 l1_2.length co7)).setCell ⟨gb331, 3, none⟩ (.int .i64 t333)).setCell ⟨gb331, 4, none⟩ (.bool (decide (t333 < 0))))) ?hg ?ho ?hn ?hr ?_; (case ho => rfl); (case hg => rfl); (case hn => rfl); (case hr => first | (go_simp; done) | (go_simp; rfl)); intro w16 hw; have n0_ : Aside0 (Kd.R (Kd.int .i32) 21 w16 w0.heap.size (fun k_ => (P1_2_ k_ ∨ w.heap.size ≤ k_)) (.slice Ao7 l1_2.length co7) l1_2) := ⟨(by rw [hw]; exact (by (with_reducible repeat (first | apply Kd.R_alloc | apply Kd.R_drewN | apply Kd.R_drew)); exact Kd.R_mono (Kd.R_far (p := ⟨gb331, 4, none⟩) (Kd.R_far (p := ⟨gb331, 3, none⟩) (Kd.R_far (p := ⟨gb331, 2, none⟩) (Kd.R_far (p := ⟨gb331, 1, none⟩) (Kd.R_far (p := ⟨gb331, 0, none⟩) (Kd.R_far (p := ⟨gb330, 3, none⟩) (Kd.R_far (p := ⟨gb330, 4, none⟩) (Kd.R_types (Kd.R_types HO1_2.out BK330.out (by decide)) BK331.out (by decide)) (fun _ hk => hk.1.2) (.bool (decide (t333 < 0)))) (fun _ hk => hk.1.2) (.int .i64 t333)) (fun _ hk => hk.2) (.bool a1_0)) (fun _ hk => hk.2) (.bool a1_1)) (fun _ hk => hk.2) (.slice Ao7 l1_2.length co7)) (fun _ hk => hk.2) (.int .i64 t333)) (fun _ hk => hk.2) (.bool (decide (t333 < 0)))) (fun _ hk => hk.1.1)))⟩; have n1_ : Aside0 (w16.heap[gb330]? = some (.cells #[.bool a1_0, .bool a1_1, .slice Ao7 l1_2.length co7, .int .i64 t333, .bool (decide (t333 < 0))] 29 (0, 0))) := ⟨(by rw [hw]; exact (by (with_reducible repeat (first | refine blk_drewN ?_ _ | refine blk_drew ?_ | refine blk_alloc ?_ _)); refine blk_far ?_ NB330_331.out _; (with_reducible repeat (first | refine blk_drewN ?_ _ | refine blk_drew ?_ | refine blk_alloc ?_ _)); refine blk_far ?_ NB330_331.out _; (with_reducible repeat (first | refine blk_drewN ?_ _ | refine blk_drew ?_ | refine blk_alloc ?_ _)); refine blk_far ?_ NB330_331.out _; (with_reducible repeat (first | refine blk_drewN ?_ _ | refine blk_drew ?_ | refine blk_alloc ?_ _)); refine blk_far ?_ NB330_331.out _; (with_reducible repeat (first | refine blk_drewN ?_ _ | refine blk_drew ?_ | refine blk_alloc ?_ _)); refine blk_far ?_ NB330_331.out _; (with_reducible repeat (first | refine blk_drewN ?_ _ | refine blk_drew ?_ | refine blk_alloc ?_ _)); refine blk_put (cs := #[.bool a1_0, .bool a1_1, .slice Ao7 l1_2.length co7, .int .i64 a1_3, .bool (decide (t333 < 0))]) ?_ 3 _ rfl; (with_reducible repeat (first | refine blk_drewN ?_ _ | refine blk_drew ?_ | refine blk_alloc ?_ _)); refine blk_put (cs := #[.bool a1_0, .bool a1_1, .slice Ao7 l1_2.length co7, .int .i64 a1_3, .bool a1_4]) ?_ 4 _ rfl; (with_reducible repeat (first | refine blk_drewN ?_ _ | refine blk_drew ?_ | refine blk_alloc ?_ _)); exact BK330.out))⟩; have n2_ : Aside0 (w16.heap[gb331]? = some (.cells #[.bool a1_0, .bool a1_1, .slice Ao7 l1_2.length co7, .int .i64 t333, .bool (decide (t333 < 0))] 29 (0, 0))) := ⟨(by rw [hw]; exact (by (with_reducible repeat (first | refine blk_drewN ?_ _ | refine blk_drew ?_ | refine blk_alloc ?_ _)); refine blk_put (cs := #[.bool a1_0, .bool a1_1, .slice Ao7 l1_2.length co7, .int .i64 t333, .bool false]) ?_ 4 _ rfl; (with_reducible repeat (first | refine blk_drewN ?_ _ | refine blk_drew ?_ | refine blk_alloc ?_ _)); refine blk_put (cs := #[.bool a1_0, .bool a1_1, .slice Ao7 l1_2.length co7, .int .i64 0, .bool false]) ?_ 3 _ rfl; (with_reducible repeat (first | refine blk_drewN ?_ _ | refine blk_drew ?_ | refine blk_alloc ?_ _)); refine blk_put (cs := #[.bool a1_0, .bool a1_1, .slice none 0 0, .int .i64 0, .bool false]) ?_ 2 _ rfl; (with_reducible repeat (first | refine blk_drewN ?_ _ | refine blk_drew ?_ | refine blk_alloc ?_ _)); refine blk_put (cs := #[.bool a1_0, .bool false, .slice none 0 0, .int .i64 0, .bool false]) ?_ 1 _ rfl; (with_reducible repeat (first | refine blk_drewN ?_ _ | refine blk_drew ?_ | refine blk_alloc ?_ _)); refine blk_put (cs := #[.bool false, .bool false, .slice none 0 0, .int .i64 0, .bool false]) ?_ 0 _ rfl; (with_reducible repeat (first | refine blk_drewN ?_ _ | refine blk_drew ?_ | refine blk_alloc ?_ _)); refine blk_far ?_ NB331_330.out _; (with_reducible repeat (first | refine blk_drewN ?_ _ | refine blk_drew ?_ | refine blk_alloc ?_ _)); refine blk_far ?_ NB331_330.out _; (with_reducible repeat (first | refine blk_drewN ?_ _ | refine blk_drew ?_ | refine blk_alloc ?_ _)); exact BK331.out))⟩; have n3_ : Aside0 (Kept w w16 (fun k_ => P1_2_ k_)) := ⟨(by rw [hw]; exact (by repeat (first | (with_reducible first | exact HK.out | apply Kept.alloc | apply Kept.drewN | apply Kept.drew | refine Kept.setCell ?_ (.inr GW330.out) _ | refine Kept.setCell ?_ (.inr GW331.out) _) | exact HK.out)))⟩; have n4_ : Aside0 (Below w0.heap.size w0 w16) := ⟨(by rw [hw]; exact (by repeat (first | (with_reducible first | exact HB.out | apply below_alloc | apply pw_below_drewN | apply below_drew1 | refine below_set ?_ GE330.out | refine below_set ?_ GE331.out) | exact HB.out)))⟩; clear hw; clear HO1_2; clear BK330; clear BK331; clear HK; clear HB; have HO1_2 := n0_; have BK330 := n1_; have BK331 := n2_; have HK := n3_; have HB := n4_; clear n0_ n1_ n2_ n3_ n4_))
    refine bodyPost_ret (results_cell_row rfl _ _ gb331 29 #[.bool a1_0, .bool a1_1, .slice Ao7 l1_2.length co7, .int .i64 t333, .bool (decide (t333 < 0))] (0, 0) _ rfl (by (with_reducible repeat (first | refine blk_drewN ?_ _ | refine blk_drew ?_ | refine blk_alloc ?_ _)); exact BK331.out) Try.underlying29 rfl (by kernel_rfl)) rfl ?_
    exact ⟨_, by first | rfl | (simp [errW_none, errW_some] <;> rfl) | (simp [*, errW_none, errW_some] <;> rfl), by (with_reducible repeat (first | apply Kd.R_alloc | apply Kd.R_drewN | apply Kd.R_drew)); exact HO1_2.out, by repeat (first | (with_reducible first | exact HB.out | apply below_alloc | apply pw_below_drewN | apply below_drew1 | refine below_set ?_ GE330.out | refine below_set ?_ GE331.out) | exact HB.out), by repeat (first | (with_reducible first | exact HK.out | apply Kept.alloc | apply Kept.drewN | apply Kept.drew | refine Kept.setCell ?_ (.inr GW330.out) _ | refine Kept.setCell ?_ (.inr GW331.out) _) | exact HK.out)⟩
  · rw [if_neg c6] at H
    have c6b0 : decide (0 ≤ t333) = false := decide_eq_false c6
    clear c6
    simp only [Option.some.injEq, Prod.mk.injEq] at H
    obtain ⟨rfl, rfl, rfl, rfl, rfl⟩ := H
    obtain ⟨Ao17, co17, eo17⟩ := Kd.R_slice HO1_2.out
    subst eo17
    go_enter Try.func27, Try.ntmps27
    try go_wp2_with (first | ((with_reducible refine gate_dst (N := 4) rfl ?_); refine box_event ?hg (N := 4) ?hd (cs := #[.bool a1_0, .bool a1_1, .slice Ao17 l1_2.length co17, .int .i64 a1_3, .bool a1_4]) (t := 29) ?hr ?_; (case hd => rfl); (case hg => rfl); (case hr => first | (go_simp; done) | (go_simp; rfl)); intro gb330 hg w18 hbox hb; have n0_ := Aside0.mk (Kd.R_below (by (with_reducible repeat (first | apply Kd.R_alloc | apply Kd.R_drewN | apply Kd.R_drew)); exact HO1_2.out) hb); have n1_ := Aside0.mk (Kept.below (S := (fun k_ => P1_2_ k_)) (by repeat (first | (with_reducible first | exact HK.out | apply Kept.alloc | apply Kept.drewN | apply Kept.drew) | exact HK.out)) hb); have n2_ := Aside0.mk (below_step (by repeat (first | (with_reducible first | exact HB.out | apply below_alloc | apply pw_below_drewN | apply below_drew1) | exact HB.out)) hb); have n3_ := Aside0.mk (hbox); have n4_ := Aside0.mk ((by rw [hg]; exact (by first | exact HK.out.1 | exact (show Kept w _ (fun k_ => P1_2_ k_) from by repeat (first | (with_reducible first | exact HK.out | apply Kept.alloc | apply Kept.drewN | apply Kept.drew) | exact HK.out)).1) : w.heap.size ≤ gb330)); have n5_ := Aside0.mk ((by rw [hg]; exact (below_size (by repeat (first | (with_reducible first | exact HB.out | apply below_alloc | apply pw_below_drewN | apply below_drew1) | exact HB.out))) : w0.heap.size ≤ gb330)); clear HO1_2; clear HK; clear HB; have HO1_2 := n0_; have HK := n1_; have HB := n2_; have BK330 := n3_; have GW330 := n4_; have GE330 := n5_; clear n0_ n1_ n2_ n3_ n4_ n5_; clear hb hbox hg) | ((with_reducible refine gate_dst (N := 6) rfl ?_); refine box_event ?hg (N := 6) ?hd (cs := #[.bool false, .bool false, .slice none 0 0, .int .i64 0, .bool false]) (t := 29) ?hr ?_; (case hd => rfl); (case hg => rfl); (case hr => first | (go_simp; done) | (go_simp; rfl)); intro gb331 hg w19 hbox hb; have n0_ := Aside0.mk (Kd.R_below (by (with_reducible repeat (first | apply Kd.R_alloc | apply Kd.R_drewN | apply Kd.R_drew)); exact HO1_2.out) hb); have n1_ := Aside0.mk (blk_below (g := gb330) (o := .cells #[.bool a1_0, .bool a1_1, .slice Ao17 l1_2.length co17, .int .i64 a1_3, .bool a1_4] 29 (0, 0)) (by (with_reducible repeat (first | refine blk_drewN ?_ _ | refine blk_drew ?_ | refine blk_alloc ?_ _)); exact BK330.out) hb); have n2_ := Aside0.mk (Kept.below (S := (fun k_ => P1_2_ k_)) (by repeat (first | (with_reducible first | exact HK.out | apply Kept.alloc | apply Kept.drewN | apply Kept.drew | refine Kept.setCell ?_ (.inr GW330.out) _) | exact HK.out)) hb); have n3_ := Aside0.mk (below_step (by repeat (first | (with_reducible first | exact HB.out | apply below_alloc | apply pw_below_drewN | apply below_drew1 | refine below_set ?_ GE330.out) | exact HB.out)) hb); have n4_ := Aside0.mk (hbox); have n5_ := Aside0.mk ((by rw [hg]; exact (by first | exact HK.out.1 | exact (show Kept w _ (fun k_ => P1_2_ k_) from by repeat (first | (with_reducible first | exact HK.out | apply Kept.alloc | apply Kept.drewN | apply Kept.drew | refine Kept.setCell ?_ (.inr GW330.out) _) | exact HK.out)).1) : w.heap.size ≤ gb331)); have n6_ := Aside0.mk ((by rw [hg]; exact (below_size (by repeat (first | (with_reducible first | exact HB.out | apply below_alloc | apply pw_below_drewN | apply below_drew1 | refine below_set ?_ GE330.out) | exact HB.out))) : w0.heap.size ≤ gb331)); have n7_ := Aside0.mk ((by rw [hg]; exact Nat.ne_of_lt (blk_lt (g := gb330) (o := .cells #[.bool a1_0, .bool a1_1, .slice Ao17 l1_2.length co17, .int .i64 a1_3, .bool a1_4] 29 (0, 0)) (by (with_reducible repeat (first | refine blk_drewN ?_ _ | refine blk_drew ?_ | refine blk_alloc ?_ _)); exact BK330.out)) : gb330 ≠ gb331)); have n8_ := Aside0.mk ((by rw [hg]; exact Nat.ne_of_gt (blk_lt (g := gb330) (o := .cells #[.bool a1_0, .bool a1_1, .slice Ao17 l1_2.length co17, .int .i64 a1_3, .bool a1_4] 29 (0, 0)) (by (with_reducible repeat (first | refine blk_drewN ?_ _ | refine blk_drew ?_ | refine blk_alloc ?_ _)); exact BK330.out)) : gb331 ≠ gb330)); clear HO1_2; clear BK330; clear HK; clear HB; have HO1_2 := n0_; have BK330 := n1_; have HK := n2_; have HB := n3_; have BK331 := n4_; have GW331 := n5_; have GE331 := n6_; have NB330_331 := n7_; have NB331_330 := n8_; clear n0_ n1_ n2_ n3_ n4_ n5_ n6_ n7_ n8_; clear hb hbox hg))
    have n0_ := Aside0.mk (Kd.R_drew HO1_2.out)
    have n1_ := Aside0.mk (blk_drew BK330.out)
    have n2_ := Aside0.mk (blk_drew BK331.out)
    have n3_ := Aside0.mk (Kept.drew HK.out)
    have n4_ := Aside0.mk (below_drew1 HB.out)
    clear HO1_2
    clear BK330
    clear BK331
    clear HK
    clear HB
    have HO1_2 := n0_
    have BK330 := n1_
    have BK331 := n2_
    have HK := n3_
    have HB := n4_
    clear n0_ n1_ n2_ n3_ n4_
    refine start_ (n := 9) (S := fun w' => w'.cell? ⟨gb330, 0, none⟩ = some (.bool a1_0) ∧ w'.cell? ⟨gb330, 1, none⟩ = some (.bool a1_1) ∧ w'.cell? ⟨gb330, 2, none⟩ = some (.slice Ao17 l1_2.length co17) ∧ w'.cell? ⟨gb330, 3, none⟩ = some (.int .i64 a1_3) ∧ w'.cell? ⟨gb330, 4, none⟩ = some (.bool a1_4)) (ds := []) #[false, false, false, false, false, false, false, false, false] (by kernel_rfl) rfl rfl ⟨(blk_cell BK330.out 0).trans rfl, (blk_cell BK330.out 1).trans rfl, (blk_cell BK330.out 2).trans rfl, (blk_cell BK330.out 3).trans rfl, (blk_cell BK330.out 4).trans rfl⟩ (fun hHeld => ?_); refine with_tabW repriseref11_look.tab1 repriseref11_look.bits1 (fun HT_ HW_ => ?_)
    generalize w19.drew = w20 at HO1_2 BK330 BK331 HK HB hHeld ⊢
    refine pure_ (i := 0) (N := some 8) (v := ?_) (a' := ?_) #[true, false, false, false, false, false, false, false, false] rfl rfl (any_of HT_.out (by kernel_rfl)) (fun _ _ _ h => h) (Or.inl ⟨by rfl, ?_⟩) ?_ ?_
    rotate_left
    · intro w'
      go_simp
      with_reducible rfl
    rotate_left
    · simp only [Act.put, List.setIfInBounds_toArray, List.set_cons_zero, List.set_cons_succ, i64_w, i32_w]
      rfl
    refine pure_ (i := 1) (N := some 9) (v := ?_) (a' := ?_) #[true, true, false, false, false, false, false, false, false] rfl rfl (any_of HT_.out (by kernel_rfl)) (fun _ _ _ h => h) (Or.inl ⟨by rfl, ?_⟩) ?_ ?_
    rotate_left
    · intro w'
      go_simp
      with_reducible rfl
    rotate_left
    · simp only [Act.put, List.setIfInBounds_toArray, List.set_cons_zero, List.set_cons_succ, i64_w, i32_w]
      rfl
    refine pure_ (i := 4) (N := some 12) (v := ?_) (a' := ?_) #[true, true, false, false, true, false, false, false, false] rfl rfl (any_of HT_.out (by kernel_rfl)) (fun _ _ _ h => h) (Or.inl ⟨by rfl, ?_⟩) ?_ ?_
    rotate_left
    · intro w'
      go_simp
      with_reducible rfl
    rotate_left
    · simp only [Act.put, List.setIfInBounds_toArray, List.set_cons_zero, List.set_cons_succ, i64_w, i32_w]
      rfl
    refine pure_ (i := 5) (N := some 13) (v := ?_) (a' := ?_) #[true, true, false, false, true, true, false, false, false] rfl rfl (any_of HT_.out (by kernel_rfl)) (fun _ _ _ h => h) (Or.inl ⟨by rfl, ?_⟩) ?_ ?_
    rotate_left
    · intro w'
      go_simp
      with_reducible rfl
    rotate_left
    · simp only [Act.put, List.setIfInBounds_toArray, List.set_cons_zero, List.set_cons_succ, i64_w, i32_w]
      rfl
    refine take_ (i := 2) (N := some 10) (v := ?_) (a' := ?_) #[true, true, true, false, true, true, false, false, false] rfl rfl (take_ofW HT_.out HW_.out (by kernel_rfl)) (fun _ _ _ h => h) (Or.inl ⟨by rfl, ?_⟩) hHeld ?_ ?_
    rotate_left
    · rintro w' ⟨s0, s1, s2, s3, s4⟩
      go_simp
      with_reducible rfl
    rotate_left
    · simp only [Act.put, List.setIfInBounds_toArray, List.set_cons_zero, List.set_cons_succ, i64_w, i32_w]
      rfl
    refine take_ (i := 6) (N := some 14) (v := ?_) (a' := ?_) #[true, true, true, false, true, true, true, false, false] rfl rfl (take_ofW HT_.out HW_.out (by kernel_rfl)) (fun _ _ _ h => h) (Or.inl ⟨by rfl, ?_⟩) hHeld ?_ ?_
    rotate_left
    · rintro w' ⟨s0, s1, s2, s3, s4⟩
      go_simp
      with_reducible rfl
    rotate_left
    · simp only [Act.put, List.setIfInBounds_toArray, List.set_cons_zero, List.set_cons_succ, i64_w, i32_w]
      rfl
    refine one_ (i := 3) (N := some 11) #[true, true, true, true, true, true, true, false, false] rfl rfl (one_of HT_.out (by kernel_rfl)) (by decide) (fun K hK => ?_)
    refine goes_ Try.func19 (by kernel_rfl) rfl #[.slice Ao17 l1_2.length co17] (by rfl) rfl rfl (by (try simp only [List.map_toArray, List.map_cons, List.map_nil]); first | done | rfl | (simp only [List.length_drop, List.length_take]; rfl)) ?_
    with_reducible refine (repriseref1_Text.calls k _ _ l1_2 t332 _ ?side1 ?side2 A4.out).mono ?_
    (case side1 => repeat (first | exact (Kd.R_reads' HO1_2.out).2.2 | (with_reducible refine Kd.C_alloc ?_ _) | (with_reducible refine Kd.C_drewN ?_ _) | (with_reducible refine Kd.C_drew ?_)))
    (case side2 => exact (Kd.R_reads' HO1_2.out).2.1)
    rintro e w21 ⟨rfl, hb⟩
    refine ⟨_, rfl, ?_⟩
    have n0_ := Aside0.mk (Kd.R_below (by (with_reducible repeat (first | apply Kd.R_alloc | apply Kd.R_drewN | apply Kd.R_drew)); exact HO1_2.out) hb)
    have n1_ := Aside0.mk (blk_below (g := gb330) (o := .cells #[.bool a1_0, .bool a1_1, .slice Ao17 l1_2.length co17, .int .i64 a1_3, .bool a1_4] 29 (0, 0)) (by (with_reducible repeat (first | refine blk_drewN ?_ _ | refine blk_drew ?_ | refine blk_alloc ?_ _)); exact BK330.out) hb)
    have n2_ := Aside0.mk (blk_below (g := gb331) (o := .cells #[.bool false, .bool false, .slice none 0 0, .int .i64 0, .bool false] 29 (0, 0)) (by (with_reducible repeat (first | refine blk_drewN ?_ _ | refine blk_drew ?_ | refine blk_alloc ?_ _)); exact BK331.out) hb)
    have n3_ := Aside0.mk (Kept.below (S := (fun k_ => P1_2_ k_)) (by repeat (first | (with_reducible first | exact HK.out | apply Kept.alloc | apply Kept.drewN | apply Kept.drew | refine Kept.setCell ?_ (.inr GW330.out) _ | refine Kept.setCell ?_ (.inr GW331.out) _) | exact HK.out)) hb)
    have n4_ := Aside0.mk (below_step (by repeat (first | (with_reducible first | exact HB.out | apply below_alloc | apply pw_below_drewN | apply below_drew1 | refine below_set ?_ GE330.out | refine below_set ?_ GE331.out) | exact HB.out)) hb)
    clear HO1_2
    clear BK330
    clear BK331
    clear HK
    clear HB
    have HO1_2 := n0_
    have BK330 := n1_
    have BK331 := n2_
    have HK := n3_
    have HB := n4_
    clear n0_ n1_ n2_ n3_ n4_
    (try clear hb)
    (try clear hb2)
    (try clear hk)
    (try clear hi)
    refine hK.out _ _ ⟨(blk_cell BK330.out 0).trans rfl, (blk_cell BK330.out 1).trans rfl, (blk_cell BK330.out 2).trans rfl, (blk_cell BK330.out 3).trans rfl, (blk_cell BK330.out 4).trans rfl⟩ (fun hHeld => ?_)
    clear hK K
    refine norm_ (a' := ?_) ?_ ?_
    rotate_left
    · show Act.put _ (some 11) _ = _
      simp only [Act.put, List.setIfInBounds_toArray, List.set_cons_zero, List.set_cons_succ, i64_w, i32_w]
      rfl
    refine one_ (i := 7) (N := some 15) #[true, true, true, true, true, true, true, true, false] rfl rfl (one_of HT_.out (by kernel_rfl)) (by decide) (fun K hK => ?_)
    refine goes_ Try.func34 (by kernel_rfl) rfl #[.slice A0 l0.length c0, .string t332, .int .i64 a2, .bool a1_1] (by rfl) rfl rfl (by (try simp only [List.map_toArray, List.map_cons, List.map_nil]); first | done | rfl | (simp only [List.length_drop, List.length_take]; rfl)) ?_
    with_reducible refine (repriseref11_Find.calls k _ _ l0 t332 a2 a1_1 t333 _ ?side1 ?side2 A5.out).mono ?_
    (case side1 => exact Kd.C_kept_now HR0.out (by repeat (first | (with_reducible first | exact HK.out | apply Kept.alloc | apply Kept.drewN | apply Kept.drew | refine Kept.setCell ?_ (.inr GW330.out) _ | refine Kept.setCell ?_ (.inr GW331.out) _) | exact HK.out)))
    (case side2 => exact HC0.out)
    rintro e w22 ⟨rfl, hb⟩
    refine ⟨_, rfl, ?_⟩
    have n0_ := Aside0.mk (Kd.R_below (by (with_reducible repeat (first | apply Kd.R_alloc | apply Kd.R_drewN | apply Kd.R_drew)); exact HO1_2.out) hb)
    have n1_ := Aside0.mk (blk_below (g := gb330) (o := .cells #[.bool a1_0, .bool a1_1, .slice Ao17 l1_2.length co17, .int .i64 a1_3, .bool a1_4] 29 (0, 0)) (by (with_reducible repeat (first | refine blk_drewN ?_ _ | refine blk_drew ?_ | refine blk_alloc ?_ _)); exact BK330.out) hb)
    have n2_ := Aside0.mk (blk_below (g := gb331) (o := .cells #[.bool false, .bool false, .slice none 0 0, .int .i64 0, .bool false] 29 (0, 0)) (by (with_reducible repeat (first | refine blk_drewN ?_ _ | refine blk_drew ?_ | refine blk_alloc ?_ _)); exact BK331.out) hb)
    have n3_ := Aside0.mk (Kept.below (S := (fun k_ => P1_2_ k_)) (by repeat (first | (with_reducible first | exact HK.out | apply Kept.alloc | apply Kept.drewN | apply Kept.drew | refine Kept.setCell ?_ (.inr GW330.out) _ | refine Kept.setCell ?_ (.inr GW331.out) _) | exact HK.out)) hb)
    have n4_ := Aside0.mk (below_step (by repeat (first | (with_reducible first | exact HB.out | apply below_alloc | apply pw_below_drewN | apply below_drew1 | refine below_set ?_ GE330.out | refine below_set ?_ GE331.out) | exact HB.out)) hb)
    clear HO1_2
    clear BK330
    clear BK331
    clear HK
    clear HB
    have HO1_2 := n0_
    have BK330 := n1_
    have BK331 := n2_
    have HK := n3_
    have HB := n4_
    clear n0_ n1_ n2_ n3_ n4_
    (try clear hb)
    (try clear hb2)
    (try clear hk)
    (try clear hi)
    refine hK.out _ _ ⟨(blk_cell BK330.out 0).trans rfl, (blk_cell BK330.out 1).trans rfl, (blk_cell BK330.out 2).trans rfl, (blk_cell BK330.out 3).trans rfl, (blk_cell BK330.out 4).trans rfl⟩ (fun hHeld => ?_)
    clear hK K
    refine norm_ (a' := ?_) ?_ ?_
    rotate_left
    · show Act.put _ (some 15) _ = _
      simp only [Act.put, List.setIfInBounds_toArray, List.set_cons_zero, List.set_cons_succ, i64_w, i32_w]
      rfl
    refine pure_ (i := 8) (N := some 7) (v := ?_) (a' := ?_) #[true, true, true, true, true, true, true, true, true] rfl rfl (any_of HT_.out (by kernel_rfl)) (fun _ _ _ h => h) (Or.inl ⟨by rfl, ?_⟩) ?_ ?_
    rotate_left
    · intro w'
      go_simp
      with_reducible rfl
    rotate_left
    · simp only [Act.put, List.setIfInBounds_toArray, List.set_cons_zero, List.set_cons_succ, i64_w, i32_w]
      rfl
    refine done_ (done_of HT_.out (by kernel_rfl)) ?_
    have hnb23 := NB330_331.out
    have hnc23 := NB331_330.out
    have hcz24_0 : w22.cell? ⟨gb330, 0, none⟩ = some (.bool a1_0) := (blk_cell BK330.out 0).trans rfl
    have hcz24_1 : w22.cell? ⟨gb330, 1, none⟩ = some (.bool a1_1) := (blk_cell BK330.out 1).trans rfl
    have hcz24_2 : w22.cell? ⟨gb330, 2, none⟩ = some (.slice Ao17 l1_2.length co17) := (blk_cell BK330.out 2).trans rfl
    have hcz24_3 : w22.cell? ⟨gb330, 3, none⟩ = some (.int .i64 a1_3) := (blk_cell BK330.out 3).trans rfl
    have hcz24_4 : w22.cell? ⟨gb330, 4, none⟩ = some (.bool a1_4) := (blk_cell BK330.out 4).trans rfl
    have hfz24_0 := blk_frozen BK330.out 0
    have hfz24_1 := blk_frozen BK330.out 1
    have hfz24_2 := blk_frozen BK330.out 2
    have hfz24_3 := blk_frozen BK330.out 3
    have hfz24_4 := blk_frozen BK330.out 4
    have hcz25_0 : w22.cell? ⟨gb331, 0, none⟩ = some (.bool false) := (blk_cell BK331.out 0).trans rfl
    have hcz25_1 : w22.cell? ⟨gb331, 1, none⟩ = some (.bool false) := (blk_cell BK331.out 1).trans rfl
    have hcz25_2 : w22.cell? ⟨gb331, 2, none⟩ = some (.slice none 0 0) := (blk_cell BK331.out 2).trans rfl
    have hcz25_3 : w22.cell? ⟨gb331, 3, none⟩ = some (.int .i64 0) := (blk_cell BK331.out 3).trans rfl
    have hcz25_4 : w22.cell? ⟨gb331, 4, none⟩ = some (.bool false) := (blk_cell BK331.out 4).trans rfl
    have hfz25_0 := blk_frozen BK331.out 0
    have hfz25_1 := blk_frozen BK331.out 1
    have hfz25_2 := blk_frozen BK331.out 2
    have hfz25_3 := blk_frozen BK331.out 3
    have hfz25_4 := blk_frozen BK331.out 4
    try go_wp2_with (first | ((with_reducible refine gate_store (t := 29) (p := 6) rfl ?_); refine store_event (t := 29) (p := 6) (v := ?vo_w26) (w1 := ((((((w22.setCell ⟨gb330, 4, none⟩ (.bool (decide (t333 < 0)))).setCell ⟨gb331, 0, none⟩ (.bool a1_0)).setCell ⟨gb331, 1, none⟩ (.bool a1_1)).setCell ⟨gb331, 2, none⟩ (.slice Ao17 l1_2.length co17)).setCell ⟨gb331, 3, none⟩ (.int .i64 a1_3)).setCell ⟨gb331, 4, none⟩ (.bool (decide (t333 < 0))))) ?hg ?ho ?hn ?hr ?_; (case ho => rfl); (case hg => rfl); (case hn => rfl); (case hr => first | (go_simp; done) | (go_simp; rfl)); intro w26 hw; have n0_ : Aside0 (Kd.R (Kd.int .i32) 21 w26 w0.heap.size (fun k_ => (P1_2_ k_ ∨ w.heap.size ≤ k_)) (.slice Ao17 l1_2.length co17) l1_2) := ⟨(by rw [hw]; exact (by (with_reducible repeat (first | apply Kd.R_alloc | apply Kd.R_drewN | apply Kd.R_drew)); exact Kd.R_mono (Kd.R_far (p := ⟨gb331, 4, none⟩) (Kd.R_far (p := ⟨gb331, 3, none⟩) (Kd.R_far (p := ⟨gb331, 2, none⟩) (Kd.R_far (p := ⟨gb331, 1, none⟩) (Kd.R_far (p := ⟨gb331, 0, none⟩) (Kd.R_far (p := ⟨gb330, 4, none⟩) (Kd.R_types (Kd.R_types HO1_2.out BK330.out (by decide)) BK331.out (by decide)) (fun _ hk => hk.1.2) (.bool (decide (t333 < 0)))) (fun _ hk => hk.2) (.bool a1_0)) (fun _ hk => hk.2) (.bool a1_1)) (fun _ hk => hk.2) (.slice Ao17 l1_2.length co17)) (fun _ hk => hk.2) (.int .i64 a1_3)) (fun _ hk => hk.2) (.bool (decide (t333 < 0)))) (fun _ hk => hk.1.1)))⟩; have n1_ : Aside0 (w26.heap[gb330]? = some (.cells #[.bool a1_0, .bool a1_1, .slice Ao17 l1_2.length co17, .int .i64 a1_3, .bool (decide (t333 < 0))] 29 (0, 0))) := ⟨(by rw [hw]; exact (by (with_reducible repeat (first | refine blk_drewN ?_ _ | refine blk_drew ?_ | refine blk_alloc ?_ _)); refine blk_far ?_ NB330_331.out _; (with_reducible repeat (first | refine blk_drewN ?_ _ | refine blk_drew ?_ | refine blk_alloc ?_ _)); refine blk_far ?_ NB330_331.out _; (with_reducible repeat (first | refine blk_drewN ?_ _ | refine blk_drew ?_ | refine blk_alloc ?_ _)); refine blk_far ?_ NB330_331.out _; (with_reducible repeat (first | refine blk_drewN ?_ _ | refine blk_drew ?_ | refine blk_alloc ?_ _)); refine blk_far ?_ NB330_331.out _; (with_reducible repeat (first | refine blk_drewN ?_ _ | refine blk_drew ?_ | refine blk_alloc ?_ _)); refine blk_far ?_ NB330_331.out _; (with_reducible repeat (first | refine blk_drewN ?_ _ | refine blk_drew ?_ | refine blk_alloc ?_ _)); refine blk_put (cs := #[.bool a1_0, .bool a1_1, .slice Ao17 l1_2.length co17, .int .i64 a1_3, .bool a1_4]) ?_ 4 _ rfl; (with_reducible repeat (first | refine blk_drewN ?_ _ | refine blk_drew ?_ | refine blk_alloc ?_ _)); exact BK330.out))⟩; have n2_ : Aside0 (w26.heap[gb331]? = some (.cells #[.bool a1_0, .bool a1_1, .slice Ao17 l1_2.length co17, .int .i64 a1_3, .bool (decide (t333 < 0))] 29 (0, 0))) := ⟨(by rw [hw]; exact (by (with_reducible repeat (first | refine blk_drewN ?_ _ | refine blk_drew ?_ | refine blk_alloc ?_ _)); refine blk_put (cs := #[.bool a1_0, .bool a1_1, .slice Ao17 l1_2.length co17, .int .i64 a1_3, .bool false]) ?_ 4 _ rfl; (with_reducible repeat (first | refine blk_drewN ?_ _ | refine blk_drew ?_ | refine blk_alloc ?_ _)); refine blk_put (cs := #[.bool a1_0, .bool a1_1, .slice Ao17 l1_2.length co17, .int .i64 0, .bool false]) ?_ 3 _ rfl; (with_reducible repeat (first | refine blk_drewN ?_ _ | refine blk_drew ?_ | refine blk_alloc ?_ _)); refine blk_put (cs := #[.bool a1_0, .bool a1_1, .slice none 0 0, .int .i64 0, .bool false]) ?_ 2 _ rfl; (with_reducible repeat (first | refine blk_drewN ?_ _ | refine blk_drew ?_ | refine blk_alloc ?_ _)); refine blk_put (cs := #[.bool a1_0, .bool false, .slice none 0 0, .int .i64 0, .bool false]) ?_ 1 _ rfl; (with_reducible repeat (first | refine blk_drewN ?_ _ | refine blk_drew ?_ | refine blk_alloc ?_ _)); refine blk_put (cs := #[.bool false, .bool false, .slice none 0 0, .int .i64 0, .bool false]) ?_ 0 _ rfl; (with_reducible repeat (first | refine blk_drewN ?_ _ | refine blk_drew ?_ | refine blk_alloc ?_ _)); refine blk_far ?_ NB331_330.out _; (with_reducible repeat (first | refine blk_drewN ?_ _ | refine blk_drew ?_ | refine blk_alloc ?_ _)); exact BK331.out))⟩; have n3_ : Aside0 (Kept w w26 (fun k_ => P1_2_ k_)) := ⟨(by rw [hw]; exact (by repeat (first | (with_reducible first | exact HK.out | apply Kept.alloc | apply Kept.drewN | apply Kept.drew | refine Kept.setCell ?_ (.inr GW330.out) _ | refine Kept.setCell ?_ (.inr GW331.out) _) | exact HK.out)))⟩; have n4_ : Aside0 (Below w0.heap.size w0 w26) := ⟨(by rw [hw]; exact (by repeat (first | (with_reducible first | exact HB.out | apply below_alloc | apply pw_below_drewN | apply below_drew1 | refine below_set ?_ GE330.out | refine below_set ?_ GE331.out) | exact HB.out)))⟩; clear hw; clear HO1_2; clear BK330; clear BK331; clear HK; clear HB; have HO1_2 := n0_; have BK330 := n1_; have BK331 := n2_; have HK := n3_; have HB := n4_; clear n0_ n1_ n2_ n3_ n4_))
    refine bodyPost_ret (results_cell_row rfl _ _ gb331 29 #[.bool a1_0, .bool a1_1, .slice Ao17 l1_2.length co17, .int .i64 a1_3, .bool (decide (t333 < 0))] (0, 0) _ rfl (by (with_reducible repeat (first | refine blk_drewN ?_ _ | refine blk_drew ?_ | refine blk_alloc ?_ _)); exact BK331.out) Try.underlying29 rfl (by kernel_rfl)) rfl ?_
    exact ⟨_, by first | rfl | (simp [errW_none, errW_some] <;> rfl) | (simp [*, errW_none, errW_some] <;> rfl), by (with_reducible repeat (first | apply Kd.R_alloc | apply Kd.R_drewN | apply Kd.R_drew)); exact HO1_2.out, by repeat (first | (with_reducible first | exact HB.out | apply below_alloc | apply pw_below_drewN | apply below_drew1 | refine below_set ?_ GE330.out | refine below_set ?_ GE331.out) | exact HB.out), by repeat (first | (with_reducible first | exact HK.out | apply Kept.alloc | apply Kept.drewN | apply Kept.drew | refine Kept.setCell ?_ (.inr GW330.out) _ | refine Kept.setCell ?_ (.inr GW331.out) _) | exact HK.out)⟩

/-! ### repriseref11_Type: function 12 -/
def repriseref11_Type.f (k : Nat) (l0 : List ByteArray) (a1_0 : Bool) (a1_1 : Bool) (l1_2 : List Int) (a1_3 : Int) (a1_4 : Bool) (a2 : Int) : Option (Bool × Bool × List Int × Int × Bool) := (repriseref11_within.f a1_3 (l0.length : Int)).bind fun t336 => ((repriseref11_own.f l1_2).bind fun t337 => (if t337.length < 35184372088832 then ((repriseref11_look.f k l0 a1_0 a1_1 (t337 ++ [a2]) t336 a1_4 t336).bind fun bt343 => (some (bt343.1, bt343.2.1, bt343.2.2.1, bt343.2.2.2.1, bt343.2.2.2.2))) else (none)))
theorem repriseref11_Type.mono : ∀ a0 a1 a2 a3 a4 a5 a6 k, LeO (repriseref11_Type.f k a0 a1 a2 a3 a4 a5 a6) (repriseref11_Type.f (k + 1) a0 a1 a2 a3 a4 a5 a6) := by
  intro a0 a1 a2 a3 a4 a5 a6 k
  unfold repriseref11_Type.f
  repeat' first
      | (with_reducible exact repriseref11_look.mono _ _ _ _ _ _ _ _)
      | (with_reducible exact LeO.refl _)
      | (with_reducible exact LeO.none _)
      | (with_reducible refine LeO.ite ?_ ?_)
      | (with_reducible refine LeO.bind ?_ (fun _ => ?_))
      | exact repriseref11_look.mono _ _ _ _ _ _ _ _
      | exact LeO.none _
      | refine LeO.ite ?_ ?_
      | refine LeO.bind ?_ (fun _ => ?_)
set_option maxHeartbeats 8000000 in
set_option maxRecDepth 100000 in
theorem repriseref11_Type.calls (k : Nat) (A0 : Option Addr) (c0 : Nat) (l0 : List ByteArray) (a1_0 : Bool) (a1_1 : Bool) (A1_2 : Option Addr) (c1_2 : Nat) (l1_2 : List Int) (a1_3 : Int) (a1_4 : Bool) (a2 : Int) (r1 : Bool) (r2 : Bool) (r3 : List Int) (r4 : Int) (r5 : Bool) (w : World) (hr0 : Kd.C Kd.string w A0 l0.length l0) (hc0 : l0.length ≤ c0) (hr1_2 : Kd.C (Kd.int .i32) w A1_2 l1_2.length l1_2) (hc1_2 : l1_2.length ≤ c1_2) (h : repriseref11_Type.f k l0 a1_0 a1_1 l1_2 a1_3 a1_4 a2 = some (r1, r2, r3, r4, r5)) :
    Calls Try.prog 12 #[.slice A0 l0.length c0, .agg #[.bool a1_0, .bool a1_1, .slice A1_2 l1_2.length c1_2, .int .i64 a1_3, .bool a1_4], .int .i32 a2] w fun e w' => ∃ v2_ : Value, e = .returned (.agg #[.bool r1, .bool r2, v2_, .int .i64 r4, .bool r5]) ∧ Kd.R (Kd.int .i32) 21 w' w.heap.size (fun _ => True) v2_ r3 ∧ Below w.heap.size w w' := by
  have hu29 := Try.underlying29
  have HR0 := Aside0.mk hr0
  have HC0 := Aside0.mk hc0
  clear hr0 hc0
  have HR1_2 := Aside0.mk hr1_2
  have HC1_2 := Aside0.mk hc1_2
  clear hr1_2 hc1_2
  have HB := Aside0.mk (Below.refl w.heap.size w)
  have H : ((repriseref11_within.f a1_3 (l0.length : Int)).bind fun t336 => ((repriseref11_own.f l1_2).bind fun t337 => (if t337.length < 35184372088832 then ((repriseref11_look.f k l0 a1_0 a1_1 (t337 ++ [a2]) t336 a1_4 t336).bind fun bt343 => (some (bt343.1, bt343.2.1, bt343.2.2.1, bt343.2.2.2.1, bt343.2.2.2.2))) else (none)))) = some (r1, r2, r3, r4, r5) := h
  clear h
  replace H := Option.bind_eq_some_iff.mp H
  obtain ⟨t336, A40, H⟩ := H
  replace H : ((repriseref11_own.f l1_2).bind fun t337 => (if t337.length < 35184372088832 then ((repriseref11_look.f k l0 a1_0 a1_1 (t337 ++ [a2]) t336 a1_4 t336).bind fun bt343 => (some (bt343.1, bt343.2.1, bt343.2.2.1, bt343.2.2.2.1, bt343.2.2.2.2))) else (none))) = some (r1, r2, r3, r4, r5) := H
  have A4 := Aside0.mk A40
  clear A40
  replace H := Option.bind_eq_some_iff.mp H
  obtain ⟨t337, A50, H⟩ := H
  replace H : (if t337.length < 35184372088832 then ((repriseref11_look.f k l0 a1_0 a1_1 (t337 ++ [a2]) t336 a1_4 t336).bind fun bt343 => (some (bt343.1, bt343.2.1, bt343.2.2.1, bt343.2.2.2.1, bt343.2.2.2.2))) else (none)) = some (r1, r2, r3, r4, r5) := H
  have A5 := Aside0.mk A50
  clear A50
  by_cases c6 : t337.length < 35184372088832
  · rw [if_pos c6] at H
    have LMc6 := Aside0.mk c6
    clear c6
    obtain ⟨y340, hy340⟩ : ∃ y_ : List Int, y_ = (t337 ++ [a2]) := ⟨_, rfl⟩
    replace H : ((repriseref11_look.f k l0 a1_0 a1_1 y340 t336 a1_4 t336).bind fun bt343 => (some (bt343.1, bt343.2.1, bt343.2.2.1, bt343.2.2.2.1, bt343.2.2.2.2))) = some (r1, r2, r3, r4, r5) := by first | (rw [hy340]; with_reducible exact H) | (have H2_ := (Option.bind_some _ _).symm.trans H; rw [hy340]; with_reducible exact H2_) | (have H2_ := (Option.bind_some _ _).symm.trans H; with_reducible exact H2_) | with_reducible exact H | (rw [hy340]; exact H) | exact H
    have Ny340 := Aside0.mk hy340
    clear hy340
    replace H := Option.bind_eq_some_iff.mp H
    obtain ⟨⟨t343, t344, t345, t348, t349⟩, A70, H⟩ := H
    replace H : (some (t343, t344, t345, t348, t349)) = some (r1, r2, r3, r4, r5) := H
    have A7 := Aside0.mk A70
    clear A70
    simp only [Option.some.injEq, Prod.mk.injEq] at H
    obtain ⟨rfl, rfl, rfl, rfl, rfl⟩ := H
    go_enter Try.func12, Try.ntmps12
    go_wp2_with (first | ((with_reducible refine gate_dst (N := 4) rfl ?_); refine box_event ?hg (N := 4) ?hd (cs := #[.bool a1_0, .bool a1_1, .slice A1_2 l1_2.length c1_2, .int .i64 a1_3, .bool a1_4]) (t := 29) ?hr ?_; (case hd => rfl); (case hg => rfl); (case hr => first | (go_simp; done) | (go_simp; rfl)); intro gb334 hg w8 hbox hb; have n0_ := Aside0.mk (below_step (by repeat (first | (with_reducible first | exact HB.out | apply below_alloc | apply pw_below_drewN | apply below_drew1) | exact HB.out)) hb); have n1_ := Aside0.mk (hbox); have n2_ := Aside0.mk ((by rw [hg]; exact (below_size (by repeat (first | (with_reducible first | exact HB.out | apply below_alloc | apply pw_below_drewN | apply below_drew1) | exact HB.out))) : w.heap.size ≤ gb334)); have n3_ := Aside0.mk ((by rw [hg]; exact (below_size (by repeat (first | (with_reducible first | exact HB.out | apply below_alloc | apply pw_below_drewN | apply below_drew1) | exact HB.out))) : w.heap.size ≤ gb334)); clear HB; have HB := n0_; have BK334 := n1_; have GW334 := n2_; have GE334 := n3_; clear n0_ n1_ n2_ n3_; clear hb hbox hg) | ((with_reducible refine gate_dst (N := 6) rfl ?_); refine box_event ?hg (N := 6) ?hd (cs := #[.bool false, .bool false, .slice none 0 0, .int .i64 0, .bool false]) (t := 29) ?hr ?_; (case hd => rfl); (case hg => rfl); (case hr => first | (go_simp; done) | (go_simp; rfl)); intro gb335 hg w9 hbox hb; have n0_ := Aside0.mk (blk_below (g := gb334) (o := .cells #[.bool a1_0, .bool a1_1, .slice A1_2 l1_2.length c1_2, .int .i64 a1_3, .bool a1_4] 29 (0, 0)) (by (with_reducible repeat (first | refine blk_drewN ?_ _ | refine blk_drew ?_ | refine blk_alloc ?_ _)); exact BK334.out) hb); have n1_ := Aside0.mk (below_step (by repeat (first | (with_reducible first | exact HB.out | apply below_alloc | apply pw_below_drewN | apply below_drew1 | refine below_set ?_ GE334.out) | exact HB.out)) hb); have n2_ := Aside0.mk (hbox); have n3_ := Aside0.mk ((by rw [hg]; exact (below_size (by repeat (first | (with_reducible first | exact HB.out | apply below_alloc | apply pw_below_drewN | apply below_drew1 | refine below_set ?_ GE334.out) | exact HB.out))) : w.heap.size ≤ gb335)); have n4_ := Aside0.mk ((by rw [hg]; exact (below_size (by repeat (first | (with_reducible first | exact HB.out | apply below_alloc | apply pw_below_drewN | apply below_drew1 | refine below_set ?_ GE334.out) | exact HB.out))) : w.heap.size ≤ gb335)); have n5_ := Aside0.mk ((by rw [hg]; exact Nat.ne_of_lt (blk_lt (g := gb334) (o := .cells #[.bool a1_0, .bool a1_1, .slice A1_2 l1_2.length c1_2, .int .i64 a1_3, .bool a1_4] 29 (0, 0)) (by (with_reducible repeat (first | refine blk_drewN ?_ _ | refine blk_drew ?_ | refine blk_alloc ?_ _)); exact BK334.out)) : gb334 ≠ gb335)); have n6_ := Aside0.mk ((by rw [hg]; exact Nat.ne_of_gt (blk_lt (g := gb334) (o := .cells #[.bool a1_0, .bool a1_1, .slice A1_2 l1_2.length c1_2, .int .i64 a1_3, .bool a1_4] 29 (0, 0)) (by (with_reducible repeat (first | refine blk_drewN ?_ _ | refine blk_drew ?_ | refine blk_alloc ?_ _)); exact BK334.out)) : gb335 ≠ gb334)); clear BK334; clear HB; have BK334 := n0_; have HB := n1_; have BK335 := n2_; have GW335 := n3_; have GE335 := n4_; have NB334_335 := n5_; have NB335_334 := n6_; clear n0_ n1_ n2_ n3_ n4_ n5_ n6_; clear hb hbox hg; have hnb10 := NB334_335.out; have hnc10 := NB335_334.out; have hcz11_0 : w9.cell? ⟨gb334, 0, none⟩ = some (.bool a1_0) := (blk_cell BK334.out 0).trans rfl; have hcz11_1 : w9.cell? ⟨gb334, 1, none⟩ = some (.bool a1_1) := (blk_cell BK334.out 1).trans rfl; have hcz11_2 : w9.cell? ⟨gb334, 2, none⟩ = some (.slice A1_2 l1_2.length c1_2) := (blk_cell BK334.out 2).trans rfl; have hcz11_3 : w9.cell? ⟨gb334, 3, none⟩ = some (.int .i64 a1_3) := (blk_cell BK334.out 3).trans rfl; have hcz11_4 : w9.cell? ⟨gb334, 4, none⟩ = some (.bool a1_4) := (blk_cell BK334.out 4).trans rfl; have hfz11_0 := blk_frozen BK334.out 0; have hfz11_1 := blk_frozen BK334.out 1; have hfz11_2 := blk_frozen BK334.out 2; have hfz11_3 := blk_frozen BK334.out 3; have hfz11_4 := blk_frozen BK334.out 4) | ((with_reducible refine gate_callee (f := 25) rfl ?_); refine goesL_ (some 11) rfl rfl Try.func25 (by kernel_rfl) rfl #[.int .i64 a1_3, .int .i64 (l0.length : Int)] rfl (by (try simp only [List.map_toArray, List.map_cons, List.map_nil]); first | done | rfl | (simp only [List.length_drop, List.length_take]; rfl)) ?_; (with_reducible refine (repriseref11_within.calls a1_3 (l0.length : Int) t336 _ A4.out).mono ?_); rintro e w12 ⟨rfl, hb⟩; refine ⟨_, rfl, ?_⟩; have n0_ := Aside0.mk (blk_below (g := gb334) (o := .cells #[.bool a1_0, .bool a1_1, .slice A1_2 l1_2.length c1_2, .int .i64 a1_3, .bool a1_4] 29 (0, 0)) (by (with_reducible repeat (first | refine blk_drewN ?_ _ | refine blk_drew ?_ | refine blk_alloc ?_ _)); exact BK334.out) hb); have n1_ := Aside0.mk (blk_below (g := gb335) (o := .cells #[.bool false, .bool false, .slice none 0 0, .int .i64 0, .bool false] 29 (0, 0)) (by (with_reducible repeat (first | refine blk_drewN ?_ _ | refine blk_drew ?_ | refine blk_alloc ?_ _)); exact BK335.out) hb); have n2_ := Aside0.mk (below_step (by repeat (first | (with_reducible first | exact HB.out | apply below_alloc | apply pw_below_drewN | apply below_drew1 | refine below_set ?_ GE334.out | refine below_set ?_ GE335.out) | exact HB.out)) hb); clear BK334; clear BK335; clear HB; have BK334 := n0_; have BK335 := n1_; have HB := n2_; clear n0_ n1_ n2_; (try clear hb); (try clear hb2); (try clear hk); (try clear hi); have hcz13_0 : w12.cell? ⟨gb334, 0, none⟩ = some (.bool a1_0) := (blk_cell BK334.out 0).trans rfl; have hcz13_1 : w12.cell? ⟨gb334, 1, none⟩ = some (.bool a1_1) := (blk_cell BK334.out 1).trans rfl; have hcz13_2 : w12.cell? ⟨gb334, 2, none⟩ = some (.slice A1_2 l1_2.length c1_2) := (blk_cell BK334.out 2).trans rfl; have hcz13_3 : w12.cell? ⟨gb334, 3, none⟩ = some (.int .i64 a1_3) := (blk_cell BK334.out 3).trans rfl; have hcz13_4 : w12.cell? ⟨gb334, 4, none⟩ = some (.bool a1_4) := (blk_cell BK334.out 4).trans rfl; have hfz13_0 := blk_frozen BK334.out 0; have hfz13_1 := blk_frozen BK334.out 1; have hfz13_2 := blk_frozen BK334.out 2; have hfz13_3 := blk_frozen BK334.out 3; have hfz13_4 := blk_frozen BK334.out 4) | ((with_reducible refine gate_callee (f := 26) rfl ?_); refine goesL_ (some 15) rfl rfl Try.func26 (by kernel_rfl) rfl #[.slice A1_2 l1_2.length c1_2] rfl (by (try simp only [List.map_toArray, List.map_cons, List.map_nil]); first | done | rfl | (simp only [List.length_drop, List.length_take]; rfl)) ?_; (with_reducible refine (repriseref11_own.calls _ _ l1_2 t337 _ ?side1 ?side2 A5.out).mono ?_); (case side1 => exact Kd.C_below HR1_2.out (by repeat (first | (with_reducible first | exact HB.out | apply below_alloc | apply pw_below_drewN | apply below_drew1 | refine below_set ?_ GE334.out | refine below_set ?_ GE335.out) | exact HB.out))); (case side2 => exact HC1_2.out); rintro e w14 ⟨v338, rfl, ho0, hb⟩; refine ⟨_, rfl, ?_⟩; have n0_ := Aside0.mk (Kd.R_lower ho0 (below_size (by repeat (first | (with_reducible first | exact HB.out | apply below_alloc | apply pw_below_drewN | apply below_drew1 | refine below_set ?_ GE334.out | refine below_set ?_ GE335.out) | exact HB.out)))); have n1_ := Aside0.mk (blk_below (g := gb334) (o := .cells #[.bool a1_0, .bool a1_1, .slice A1_2 l1_2.length c1_2, .int .i64 t336, .bool a1_4] 29 (0, 0)) (by (with_reducible repeat (first | refine blk_drewN ?_ _ | refine blk_drew ?_ | refine blk_alloc ?_ _)); refine blk_put (cs := #[.bool a1_0, .bool a1_1, .slice A1_2 l1_2.length c1_2, .int .i64 a1_3, .bool a1_4]) ?_ 3 _ rfl; (with_reducible repeat (first | refine blk_drewN ?_ _ | refine blk_drew ?_ | refine blk_alloc ?_ _)); exact BK334.out) hb); have n2_ := Aside0.mk (blk_below (g := gb335) (o := .cells #[.bool false, .bool false, .slice none 0 0, .int .i64 0, .bool false] 29 (0, 0)) (by (with_reducible repeat (first | refine blk_drewN ?_ _ | refine blk_drew ?_ | refine blk_alloc ?_ _)); refine blk_far ?_ NB335_334.out _; (with_reducible repeat (first | refine blk_drewN ?_ _ | refine blk_drew ?_ | refine blk_alloc ?_ _)); exact BK335.out) hb); have n3_ := Aside0.mk (below_step (by repeat (first | (with_reducible first | exact HB.out | apply below_alloc | apply pw_below_drewN | apply below_drew1 | refine below_set ?_ GE334.out | refine below_set ?_ GE335.out) | exact HB.out)) hb); clear BK334; clear BK335; clear HB; have HO339 := n0_; have BK334 := n1_; have BK335 := n2_; have HB := n3_; clear n0_ n1_ n2_ n3_; (try clear hb); (try clear hb2); (try clear hk); (try clear hi); (try clear ho0)) | ((with_reducible refine gate_builtin (b := .append) (xs := #[.tmp 15, .tmp 17]) rfl ?_); at_builtin; refine Kd.R_append (Kd.int .i32) (w0 := w) w.heap.size rfl (.tmp 15) (.tmp 17) 27 21 (.int .i32 0) 4 rfl Try.underlying27 info21 rfl (by decide) (by omega) v338 t337 a2 [.int .i32 a2] (fun _ => True) (fun _ => False) rfl rfl ?aP (fun _ hk => hk.elim) ?aF ?aO ?aB ?aS ?aL ?_; (case aP => exact rfl); (case aB => exact (by repeat (first | (with_reducible first | exact HB.out | apply below_alloc | apply pw_below_drewN | apply below_drew1 | refine below_set ?_ GE334.out | refine below_set ?_ GE335.out) | exact HB.out))); (case aF => exact (fun _ _ => trivial)); (case aO => exact (by (with_reducible repeat (first | apply Kd.R_alloc | apply Kd.R_drewN | apply Kd.R_drew)); exact HO339.out)); (case aS => exact (below_size (by repeat (first | (with_reducible first | exact HB.out | apply below_alloc | apply pw_below_drewN | apply below_drew1 | refine below_set ?_ GE334.out | refine below_set ?_ GE335.out) | exact HB.out)))); (case aL => have := LMc6.out; omega); intro v341 w15 ho hb hg hat; rw [← Ny340.out] at ho; have n0_ := Aside0.mk (blk_grown (g := gb334) (o := .cells #[.bool a1_0, .bool a1_1, .slice A1_2 l1_2.length c1_2, .int .i64 t336, .bool a1_4] 29 (0, 0)) (by (with_reducible repeat (first | refine blk_drewN ?_ _ | refine blk_drew ?_ | refine blk_alloc ?_ _)); exact BK334.out) hg (Kd.R_ne HO339.out BK334.out (by decide))); have n1_ := Aside0.mk (blk_grown (g := gb335) (o := .cells #[.bool false, .bool false, .slice none 0 0, .int .i64 0, .bool false] 29 (0, 0)) (by (with_reducible repeat (first | refine blk_drewN ?_ _ | refine blk_drew ?_ | refine blk_alloc ?_ _)); exact BK335.out) hg (Kd.R_ne HO339.out BK335.out (by decide))); have n2_ := Aside0.mk (hb); have n3_ := Aside0.mk (ho); clear BK334; clear BK335; clear HB; clear HO339; have BK334 := n0_; have BK335 := n1_; have HB := n2_; have HO342 := n3_; clear n0_ n1_ n2_ n3_; clear ho hb hg hat; obtain ⟨Ao16, co16, eo16⟩ := Kd.R_slice HO342.out; subst eo16; have hcz17_0 : w15.cell? ⟨gb334, 0, none⟩ = some (.bool a1_0) := (blk_cell BK334.out 0).trans rfl; have hcz17_1 : w15.cell? ⟨gb334, 1, none⟩ = some (.bool a1_1) := (blk_cell BK334.out 1).trans rfl; have hcz17_2 : w15.cell? ⟨gb334, 2, none⟩ = some (.slice A1_2 l1_2.length c1_2) := (blk_cell BK334.out 2).trans rfl; have hcz17_3 : w15.cell? ⟨gb334, 3, none⟩ = some (.int .i64 t336) := (blk_cell BK334.out 3).trans rfl; have hcz17_4 : w15.cell? ⟨gb334, 4, none⟩ = some (.bool a1_4) := (blk_cell BK334.out 4).trans rfl; have hfz17_0 := blk_frozen BK334.out 0; have hfz17_1 := blk_frozen BK334.out 1; have hfz17_2 := blk_frozen BK334.out 2; have hfz17_3 := blk_frozen BK334.out 3; have hfz17_4 := blk_frozen BK334.out 4) | ((with_reducible refine gate_store (t := 27) (p := 19) rfl ?_); refine store_event (t := 27) (p := 19) (v := ?vo_w18) (w1 := (w15.setCell ⟨gb334, 2, none⟩ (.slice Ao16 y340.length co16))) ?hg ?ho ?hn ?hr ?_; (case ho => rfl); (case hg => rfl); (case hn => rfl); (case hr => first | (go_simp; done) | (go_simp; rfl)); intro w18 hw; have n0_ : Aside0 (Kd.R (Kd.int .i32) 21 w18 w.heap.size (fun _ => True) (.slice Ao16 y340.length co16) y340) := ⟨(by rw [hw]; exact (by (with_reducible repeat (first | apply Kd.R_alloc | apply Kd.R_drewN | apply Kd.R_drew)); exact Kd.R_mono (Kd.R_far (p := ⟨gb334, 2, none⟩) (Kd.R_types HO342.out BK334.out (by decide)) (fun _ hk => hk.2) (.slice Ao16 y340.length co16)) (fun _ hk => trivial)))⟩; have n1_ : Aside0 (w18.heap[gb334]? = some (.cells #[.bool a1_0, .bool a1_1, .slice Ao16 y340.length co16, .int .i64 t336, .bool a1_4] 29 (0, 0))) := ⟨(by rw [hw]; exact (by (with_reducible repeat (first | refine blk_drewN ?_ _ | refine blk_drew ?_ | refine blk_alloc ?_ _)); refine blk_put (cs := #[.bool a1_0, .bool a1_1, .slice A1_2 l1_2.length c1_2, .int .i64 t336, .bool a1_4]) ?_ 2 _ rfl; (with_reducible repeat (first | refine blk_drewN ?_ _ | refine blk_drew ?_ | refine blk_alloc ?_ _)); exact BK334.out))⟩; have n2_ : Aside0 (w18.heap[gb335]? = some (.cells #[.bool false, .bool false, .slice none 0 0, .int .i64 0, .bool false] 29 (0, 0))) := ⟨(by rw [hw]; exact (by (with_reducible repeat (first | refine blk_drewN ?_ _ | refine blk_drew ?_ | refine blk_alloc ?_ _)); refine blk_far ?_ NB335_334.out _; (with_reducible repeat (first | refine blk_drewN ?_ _ | refine blk_drew ?_ | refine blk_alloc ?_ _)); exact BK335.out))⟩; have n3_ : Aside0 (Below w.heap.size w w18) := ⟨(by rw [hw]; exact (by repeat (first | (with_reducible first | exact HB.out | apply below_alloc | apply pw_below_drewN | apply below_drew1 | refine below_set ?_ GE334.out | refine below_set ?_ GE335.out) | exact HB.out)))⟩; clear hw; clear HO342; clear BK334; clear BK335; clear HB; have HO342 := n0_; have BK334 := n1_; have BK335 := n2_; have HB := n3_; clear n0_ n1_ n2_ n3_; have hcz19_0 : w18.cell? ⟨gb334, 0, none⟩ = some (.bool a1_0) := (blk_cell BK334.out 0).trans rfl; have hcz19_1 : w18.cell? ⟨gb334, 1, none⟩ = some (.bool a1_1) := (blk_cell BK334.out 1).trans rfl; have hcz19_2 : w18.cell? ⟨gb334, 2, none⟩ = some (.slice Ao16 y340.length co16) := (blk_cell BK334.out 2).trans rfl; have hcz19_3 : w18.cell? ⟨gb334, 3, none⟩ = some (.int .i64 t336) := (blk_cell BK334.out 3).trans rfl; have hcz19_4 : w18.cell? ⟨gb334, 4, none⟩ = some (.bool a1_4) := (blk_cell BK334.out 4).trans rfl; have hfz19_0 := blk_frozen BK334.out 0; have hfz19_1 := blk_frozen BK334.out 1; have hfz19_2 := blk_frozen BK334.out 2; have hfz19_3 := blk_frozen BK334.out 3; have hfz19_4 := blk_frozen BK334.out 4) | ((with_reducible refine gate_callee (f := 27) rfl ?_); refine goesL_ (some 24) rfl rfl Try.func27 (by kernel_rfl) rfl #[.slice A0 l0.length c0, .agg #[.bool a1_0, .bool a1_1, .slice Ao16 y340.length co16, .int .i64 t336, .bool a1_4], .int .i64 t336] rfl (by (try simp only [List.map_toArray, List.map_cons, List.map_nil]); first | done | rfl | (simp only [List.length_drop, List.length_take]; rfl)) ?_; (with_reducible refine (repriseref11_look.calls k _ _ l0 a1_0 a1_1 (fun k_ => some k_ = (.slice Ao16 y340.length co16 : Value).ownBlock) (.slice Ao16 y340.length co16) y340 t336 a1_4 t336 t343 t344 t345 t348 t349 w _ ?side1 ?side2 ?side3 ?side4 A7.out).mono ?_); (case side1 => repeat (first | (with_reducible first | exact HB.out | apply below_alloc | apply pw_below_drewN | apply below_drew1 | refine below_set ?_ GE334.out | refine below_set ?_ GE335.out) | exact HB.out)); (case side2 => exact Kd.C_kept_came Kd.heap_string HR0.out (by repeat (first | (with_reducible first | exact HB.out | apply below_alloc | apply pw_below_drewN | apply below_drew1 | refine below_set ?_ GE334.out | refine below_set ?_ GE335.out) | exact HB.out)) (fun k_ hs_ => (fun e_ => Kd.R_base HO342.out k_ e_.symm) hs_)); (case side3 => exact HC0.out); (case side4 => exact Kd.R_tight rfl HO342.out); rintro e w20 ⟨v346, rfl, ho0, hb, hkp⟩; refine ⟨_, rfl, ?_⟩; have n0_ := Aside0.mk (blk_kept (by (with_reducible repeat (first | refine blk_drewN ?_ _ | refine blk_drew ?_ | refine blk_alloc ?_ _)); exact BK334.out) hkp (fun hs_ => (fun e_ => (Kd.R_ne HO342.out BK334.out (by decide)) e_) hs_)); have n1_ := Aside0.mk (blk_kept (by (with_reducible repeat (first | refine blk_drewN ?_ _ | refine blk_drew ?_ | refine blk_alloc ?_ _)); exact BK335.out) hkp (fun hs_ => (fun e_ => (Kd.R_ne HO342.out BK335.out (by decide)) e_) hs_)); have n2_ := Aside0.mk (Kd.R_mono (ok' := fun k_ => True) ho0 (fun k_ hk_ => trivial)); have n3_ := Aside0.mk (hb); clear BK334; clear BK335; clear HB; clear HO342; have BK334 := n0_; have BK335 := n1_; have HO347 := n2_; have HB := n3_; clear n0_ n1_ n2_ n3_; (try clear hb); (try clear hkp); (try clear ho0); have hcz21_0 : w20.cell? ⟨gb335, 0, none⟩ = some (.bool false) := (blk_cell BK335.out 0).trans rfl; have hcz21_1 : w20.cell? ⟨gb335, 1, none⟩ = some (.bool false) := (blk_cell BK335.out 1).trans rfl; have hcz21_2 : w20.cell? ⟨gb335, 2, none⟩ = some (.slice none 0 0) := (blk_cell BK335.out 2).trans rfl; have hcz21_3 : w20.cell? ⟨gb335, 3, none⟩ = some (.int .i64 0) := (blk_cell BK335.out 3).trans rfl; have hcz21_4 : w20.cell? ⟨gb335, 4, none⟩ = some (.bool false) := (blk_cell BK335.out 4).trans rfl; have hfz21_0 := blk_frozen BK335.out 0; have hfz21_1 := blk_frozen BK335.out 1; have hfz21_2 := blk_frozen BK335.out 2; have hfz21_3 := blk_frozen BK335.out 3; have hfz21_4 := blk_frozen BK335.out 4; obtain ⟨Ao22, co22, eo22⟩ := Kd.R_slice HO347.out; subst eo22))
    refine bodyPost_ret (results_cell_row rfl _ _ gb335 29 #[.bool t343, .bool t344, .slice Ao22 t345.length co22, .int .i64 t348, .bool t349] (0, 0) _ rfl (by (with_reducible repeat (first | refine blk_drewN ?_ _ | refine blk_drew ?_ | refine blk_alloc ?_ _)); refine blk_put (cs := #[.bool t343, .bool t344, .slice Ao22 t345.length co22, .int .i64 t348, .bool false]) ?_ 4 _ rfl; (with_reducible repeat (first | refine blk_drewN ?_ _ | refine blk_drew ?_ | refine blk_alloc ?_ _)); refine blk_put (cs := #[.bool t343, .bool t344, .slice Ao22 t345.length co22, .int .i64 0, .bool false]) ?_ 3 _ rfl; (with_reducible repeat (first | refine blk_drewN ?_ _ | refine blk_drew ?_ | refine blk_alloc ?_ _)); refine blk_put (cs := #[.bool t343, .bool t344, .slice none 0 0, .int .i64 0, .bool false]) ?_ 2 _ rfl; (with_reducible repeat (first | refine blk_drewN ?_ _ | refine blk_drew ?_ | refine blk_alloc ?_ _)); refine blk_put (cs := #[.bool t343, .bool false, .slice none 0 0, .int .i64 0, .bool false]) ?_ 1 _ rfl; (with_reducible repeat (first | refine blk_drewN ?_ _ | refine blk_drew ?_ | refine blk_alloc ?_ _)); refine blk_put (cs := #[.bool false, .bool false, .slice none 0 0, .int .i64 0, .bool false]) ?_ 0 _ rfl; (with_reducible repeat (first | refine blk_drewN ?_ _ | refine blk_drew ?_ | refine blk_alloc ?_ _)); exact BK335.out) Try.underlying29 rfl (by kernel_rfl)) rfl ?_
    exact ⟨_, by first | rfl | (simp [errW_none, errW_some] <;> rfl) | (simp [*, errW_none, errW_some] <;> rfl), by (with_reducible repeat (first | apply Kd.R_alloc | apply Kd.R_drewN | apply Kd.R_drew)); exact Kd.R_mono (Kd.R_far (p := ⟨gb335, 4, none⟩) (Kd.R_far (p := ⟨gb335, 3, none⟩) (Kd.R_far (p := ⟨gb335, 2, none⟩) (Kd.R_far (p := ⟨gb335, 1, none⟩) (Kd.R_far (p := ⟨gb335, 0, none⟩) (Kd.R_types HO347.out BK335.out (by decide)) (fun _ hk => hk.2) (.bool t343)) (fun _ hk => hk.2) (.bool t344)) (fun _ hk => hk.2) (.slice Ao22 t345.length co22)) (fun _ hk => hk.2) (.int .i64 t348)) (fun _ hk => hk.2) (.bool t349)) (fun _ hk => trivial), by repeat (first | (with_reducible first | exact HB.out | apply below_alloc | apply pw_below_drewN | apply below_drew1 | refine below_set ?_ GE334.out | refine below_set ?_ GE335.out) | exact HB.out)⟩
  · rw [if_neg c6] at H
    exact absurd H (by simp)

end Go.Proofs.Ytoaeibhicbgknaa.QSearchPlays
