/- Lean functions for the Go functions that the law reaches, and proofs that each call comes to just what its Lean function tells; no condition. (Written by a program of this session.) -/
import Derived.Test.YtmffdnedakfigaaDoorQHistManyx0
import Derived.Test.YtmffdnedakfigaaDoorQHistManyx1
namespace Go.Proofs.YtmffdnedakfigaaDoor.QHistMany
open Go.RowKit Go.Proofs.YtmffdnedakfigaaDoorW.PrintWords Go.Proofs.YtmffdnedakfigaaDoorW.PrintLast Go.Proofs.YtmffdnedakfigaaDoorW.PrintMore
attribute [local go_sem] max2_int min2_int max_two min_two max_three min_three max_four min_four   -- for this text's walks alone
set_option linter.unusedVariables false
set_option linter.unusedSimpArgs false

/-! ### repriselaw15_known: function 4 -/
def repriselaw15_known.f (k : Nat)  : Option (Bool) := (hist_Find.f k (([(⟨#[97, 98]⟩ : ByteArray), (⟨#[99]⟩ : ByteArray)] : List ByteArray)) (⟨#[98]⟩ : ByteArray) 5 true).bind fun t129 => (if t129 = 0 then ((hist_Find.f k (([(⟨#[97, 98]⟩ : ByteArray), (⟨#[99]⟩ : ByteArray)] : List ByteArray)) (⟨#[98]⟩ : ByteArray) 1 false).bind fun t133 => (if t133 = (-1) then ((hist_Place.f (⟨#[195, 169, 97, 98]⟩ : ByteArray) (⟨#[98]⟩ : ByteArray)).bind fun t134 => (if t134 = 2 then ((hist_Add.f k (([(⟨#[97]⟩ : ByteArray)] : List ByteArray)) (⟨#[97]⟩ : ByteArray)).bind fun t138 => (if (t138.length : Int) = 1 then ((hist_Add.f k (([(⟨#[97]⟩ : ByteArray)] : List ByteArray)) (⟨#[98]⟩ : ByteArray)).bind fun t144 => (if (t144.length : Int) = 2 then ((hist_Right.f (⟨#[195, 169]⟩ : ByteArray)).bind fun t147 => (if t147 = true then ((hist_Right.f (⟨#[255]⟩ : ByteArray)).bind fun t148 => (if t148 = true then (none) else ((hist_Clip.f (([(⟨#[]⟩ : ByteArray), (⟨#[97]⟩ : ByteArray)] : List ByteArray))).bind fun t152 => (some ((t152.length : Int) == 1))))) else (none))) else (none))) else (none))) else (none))) else (none))) else (none))
theorem repriselaw15_known.mono : ∀ k, LeO (repriselaw15_known.f k ) (repriselaw15_known.f (k + 1) ) := by
  intro  k
  unfold repriselaw15_known.f
  repeat' first
      | (with_reducible exact hist_Add.mono _ _ _)
      | (with_reducible exact hist_Find.mono _ _ _ _ _)
      | (with_reducible exact LeO.refl _)
      | (with_reducible exact LeO.none _)
      | (with_reducible refine LeO.ite ?_ ?_)
      | (with_reducible refine LeO.bind ?_ (fun _ => ?_))
      | exact hist_Add.mono _ _ _
      | exact hist_Find.mono _ _ _ _ _
      | exact LeO.none _
      | refine LeO.ite ?_ ?_
      | refine LeO.bind ?_ (fun _ => ?_)
set_option maxHeartbeats 8000000 in
set_option maxRecDepth 100000 in
theorem repriselaw15_known.calls (k : Nat)  (r : Bool) (w : World) (h : repriselaw15_known.f k  = some r) (hsh : Sh0 w := by first | assumption | (with_reducible repeat (first | apply Sh0.drewN | apply Sh0.drew | apply Sh0.alloc | (refine Sh0.set (by assumption) (by assumption) ?_))) <;> first | assumption | exact Sh0.of (by assumption) (by assumption)) :
    Calls Tryd.prog 4 #[] w fun e w' => e = .returned (.bool r) ∧ Below w.heap.size w w' := by
  have HB := Aside0.mk (Below.refl w.heap.size w)
  have H : ((hist_Find.f k (([(⟨#[97, 98]⟩ : ByteArray), (⟨#[99]⟩ : ByteArray)] : List ByteArray)) (⟨#[98]⟩ : ByteArray) 5 true).bind fun t129 => (if t129 = 0 then ((hist_Find.f k (([(⟨#[97, 98]⟩ : ByteArray), (⟨#[99]⟩ : ByteArray)] : List ByteArray)) (⟨#[98]⟩ : ByteArray) 1 false).bind fun t133 => (if t133 = (-1) then ((hist_Place.f (⟨#[195, 169, 97, 98]⟩ : ByteArray) (⟨#[98]⟩ : ByteArray)).bind fun t134 => (if t134 = 2 then ((hist_Add.f k (([(⟨#[97]⟩ : ByteArray)] : List ByteArray)) (⟨#[97]⟩ : ByteArray)).bind fun t138 => (if (t138.length : Int) = 1 then ((hist_Add.f k (([(⟨#[97]⟩ : ByteArray)] : List ByteArray)) (⟨#[98]⟩ : ByteArray)).bind fun t144 => (if (t144.length : Int) = 2 then ((hist_Right.f (⟨#[195, 169]⟩ : ByteArray)).bind fun t147 => (if t147 = true then ((hist_Right.f (⟨#[255]⟩ : ByteArray)).bind fun t148 => (if t148 = true then (none) else ((hist_Clip.f (([(⟨#[]⟩ : ByteArray), (⟨#[97]⟩ : ByteArray)] : List ByteArray))).bind fun t152 => (some ((t152.length : Int) == 1))))) else (none))) else (none))) else (none))) else (none))) else (none))) else (none))) = some r := h
  clear h
  obtain ⟨y126, hy126⟩ : ∃ y_ : List ByteArray, y_ = (([(⟨#[97, 98]⟩ : ByteArray), (⟨#[99]⟩ : ByteArray)] : List ByteArray)) := ⟨_, rfl⟩
  replace H : ((hist_Find.f k y126 (⟨#[98]⟩ : ByteArray) 5 true).bind fun t129 => (if t129 = 0 then ((hist_Find.f k (([(⟨#[97, 98]⟩ : ByteArray), (⟨#[99]⟩ : ByteArray)] : List ByteArray)) (⟨#[98]⟩ : ByteArray) 1 false).bind fun t133 => (if t133 = (-1) then ((hist_Place.f (⟨#[195, 169, 97, 98]⟩ : ByteArray) (⟨#[98]⟩ : ByteArray)).bind fun t134 => (if t134 = 2 then ((hist_Add.f k (([(⟨#[97]⟩ : ByteArray)] : List ByteArray)) (⟨#[97]⟩ : ByteArray)).bind fun t138 => (if (t138.length : Int) = 1 then ((hist_Add.f k (([(⟨#[97]⟩ : ByteArray)] : List ByteArray)) (⟨#[98]⟩ : ByteArray)).bind fun t144 => (if (t144.length : Int) = 2 then ((hist_Right.f (⟨#[195, 169]⟩ : ByteArray)).bind fun t147 => (if t147 = true then ((hist_Right.f (⟨#[255]⟩ : ByteArray)).bind fun t148 => (if t148 = true then (none) else ((hist_Clip.f (([(⟨#[]⟩ : ByteArray), (⟨#[97]⟩ : ByteArray)] : List ByteArray))).bind fun t152 => (some ((t152.length : Int) == 1))))) else (none))) else (none))) else (none))) else (none))) else (none))) else (none))) = some r := by first | (rw [hy126]; with_reducible exact H) | (have H2_ := (Option.bind_some _ _).symm.trans H; rw [hy126]; with_reducible exact H2_) | (have H2_ := (Option.bind_some _ _).symm.trans H; with_reducible exact H2_) | with_reducible exact H | (rw [hy126]; exact H) | exact H
  have Ny126 := Aside0.mk hy126
  clear hy126
  replace H := Option.bind_eq_some_iff.mp H
  obtain ⟨t129, A10, H⟩ := H
  replace H : (if t129 = 0 then ((hist_Find.f k (([(⟨#[97, 98]⟩ : ByteArray), (⟨#[99]⟩ : ByteArray)] : List ByteArray)) (⟨#[98]⟩ : ByteArray) 1 false).bind fun t133 => (if t133 = (-1) then ((hist_Place.f (⟨#[195, 169, 97, 98]⟩ : ByteArray) (⟨#[98]⟩ : ByteArray)).bind fun t134 => (if t134 = 2 then ((hist_Add.f k (([(⟨#[97]⟩ : ByteArray)] : List ByteArray)) (⟨#[97]⟩ : ByteArray)).bind fun t138 => (if (t138.length : Int) = 1 then ((hist_Add.f k (([(⟨#[97]⟩ : ByteArray)] : List ByteArray)) (⟨#[98]⟩ : ByteArray)).bind fun t144 => (if (t144.length : Int) = 2 then ((hist_Right.f (⟨#[195, 169]⟩ : ByteArray)).bind fun t147 => (if t147 = true then ((hist_Right.f (⟨#[255]⟩ : ByteArray)).bind fun t148 => (if t148 = true then (none) else ((hist_Clip.f (([(⟨#[]⟩ : ByteArray), (⟨#[97]⟩ : ByteArray)] : List ByteArray))).bind fun t152 => (some ((t152.length : Int) == 1))))) else (none))) else (none))) else (none))) else (none))) else (none))) else (none)) = some r := H
  have A1 := Aside0.mk A10
  clear A10
  by_cases c2 : t129 = 0
  · rw [if_pos c2] at H
    have c2b0 : (t129 == 0) = true := beq_iff_eq.mpr c2
    have c2b1 : (t129 != 0) = false := bne_eq_false_iff_eq.mpr c2
    clear c2
    obtain ⟨y130, hy130⟩ : ∃ y_ : List ByteArray, y_ = (([(⟨#[97, 98]⟩ : ByteArray), (⟨#[99]⟩ : ByteArray)] : List ByteArray)) := ⟨_, rfl⟩
    replace H : ((hist_Find.f k y130 (⟨#[98]⟩ : ByteArray) 1 false).bind fun t133 => (if t133 = (-1) then ((hist_Place.f (⟨#[195, 169, 97, 98]⟩ : ByteArray) (⟨#[98]⟩ : ByteArray)).bind fun t134 => (if t134 = 2 then ((hist_Add.f k (([(⟨#[97]⟩ : ByteArray)] : List ByteArray)) (⟨#[97]⟩ : ByteArray)).bind fun t138 => (if (t138.length : Int) = 1 then ((hist_Add.f k (([(⟨#[97]⟩ : ByteArray)] : List ByteArray)) (⟨#[98]⟩ : ByteArray)).bind fun t144 => (if (t144.length : Int) = 2 then ((hist_Right.f (⟨#[195, 169]⟩ : ByteArray)).bind fun t147 => (if t147 = true then ((hist_Right.f (⟨#[255]⟩ : ByteArray)).bind fun t148 => (if t148 = true then (none) else ((hist_Clip.f (([(⟨#[]⟩ : ByteArray), (⟨#[97]⟩ : ByteArray)] : List ByteArray))).bind fun t152 => (some ((t152.length : Int) == 1))))) else (none))) else (none))) else (none))) else (none))) else (none))) = some r := by first | (rw [hy130]; with_reducible exact H) | (have H2_ := (Option.bind_some _ _).symm.trans H; rw [hy130]; with_reducible exact H2_) | (have H2_ := (Option.bind_some _ _).symm.trans H; with_reducible exact H2_) | with_reducible exact H | (rw [hy130]; exact H) | exact H
    have Ny130 := Aside0.mk hy130
    clear hy130
    replace H := Option.bind_eq_some_iff.mp H
    obtain ⟨t133, A30, H⟩ := H
    replace H : (if t133 = (-1) then ((hist_Place.f (⟨#[195, 169, 97, 98]⟩ : ByteArray) (⟨#[98]⟩ : ByteArray)).bind fun t134 => (if t134 = 2 then ((hist_Add.f k (([(⟨#[97]⟩ : ByteArray)] : List ByteArray)) (⟨#[97]⟩ : ByteArray)).bind fun t138 => (if (t138.length : Int) = 1 then ((hist_Add.f k (([(⟨#[97]⟩ : ByteArray)] : List ByteArray)) (⟨#[98]⟩ : ByteArray)).bind fun t144 => (if (t144.length : Int) = 2 then ((hist_Right.f (⟨#[195, 169]⟩ : ByteArray)).bind fun t147 => (if t147 = true then ((hist_Right.f (⟨#[255]⟩ : ByteArray)).bind fun t148 => (if t148 = true then (none) else ((hist_Clip.f (([(⟨#[]⟩ : ByteArray), (⟨#[97]⟩ : ByteArray)] : List ByteArray))).bind fun t152 => (some ((t152.length : Int) == 1))))) else (none))) else (none))) else (none))) else (none))) else (none)) = some r := H
    have A3 := Aside0.mk A30
    clear A30
    by_cases c4 : t133 = (-1)
    · rw [if_pos c4] at H
      have c4b0 : (t133 == (-1)) = true := beq_iff_eq.mpr c4
      have c4b1 : (t133 != (-1)) = false := bne_eq_false_iff_eq.mpr c4
      clear c4
      replace H := Option.bind_eq_some_iff.mp H
      obtain ⟨t134, A50, H⟩ := H
      replace H : (if t134 = 2 then ((hist_Add.f k (([(⟨#[97]⟩ : ByteArray)] : List ByteArray)) (⟨#[97]⟩ : ByteArray)).bind fun t138 => (if (t138.length : Int) = 1 then ((hist_Add.f k (([(⟨#[97]⟩ : ByteArray)] : List ByteArray)) (⟨#[98]⟩ : ByteArray)).bind fun t144 => (if (t144.length : Int) = 2 then ((hist_Right.f (⟨#[195, 169]⟩ : ByteArray)).bind fun t147 => (if t147 = true then ((hist_Right.f (⟨#[255]⟩ : ByteArray)).bind fun t148 => (if t148 = true then (none) else ((hist_Clip.f (([(⟨#[]⟩ : ByteArray), (⟨#[97]⟩ : ByteArray)] : List ByteArray))).bind fun t152 => (some ((t152.length : Int) == 1))))) else (none))) else (none))) else (none))) else (none)) = some r := H
      have A5 := Aside0.mk A50
      clear A50
      by_cases c6 : t134 = 2
      · rw [if_pos c6] at H
        have c6b0 : (t134 == 2) = true := beq_iff_eq.mpr c6
        have c6b1 : (t134 != 2) = false := bne_eq_false_iff_eq.mpr c6
        clear c6
        obtain ⟨y135, hy135⟩ : ∃ y_ : List ByteArray, y_ = (([(⟨#[97]⟩ : ByteArray)] : List ByteArray)) := ⟨_, rfl⟩
        replace H : ((hist_Add.f k y135 (⟨#[97]⟩ : ByteArray)).bind fun t138 => (if (t138.length : Int) = 1 then ((hist_Add.f k (([(⟨#[97]⟩ : ByteArray)] : List ByteArray)) (⟨#[98]⟩ : ByteArray)).bind fun t144 => (if (t144.length : Int) = 2 then ((hist_Right.f (⟨#[195, 169]⟩ : ByteArray)).bind fun t147 => (if t147 = true then ((hist_Right.f (⟨#[255]⟩ : ByteArray)).bind fun t148 => (if t148 = true then (none) else ((hist_Clip.f (([(⟨#[]⟩ : ByteArray), (⟨#[97]⟩ : ByteArray)] : List ByteArray))).bind fun t152 => (some ((t152.length : Int) == 1))))) else (none))) else (none))) else (none))) = some r := by first | (rw [hy135]; with_reducible exact H) | (have H2_ := (Option.bind_some _ _).symm.trans H; rw [hy135]; with_reducible exact H2_) | (have H2_ := (Option.bind_some _ _).symm.trans H; with_reducible exact H2_) | with_reducible exact H | (rw [hy135]; exact H) | exact H
        have Ny135 := Aside0.mk hy135
        clear hy135
        replace H := Option.bind_eq_some_iff.mp H
        obtain ⟨t138, A70, H⟩ := H
        replace H : (if (t138.length : Int) = 1 then ((hist_Add.f k (([(⟨#[97]⟩ : ByteArray)] : List ByteArray)) (⟨#[98]⟩ : ByteArray)).bind fun t144 => (if (t144.length : Int) = 2 then ((hist_Right.f (⟨#[195, 169]⟩ : ByteArray)).bind fun t147 => (if t147 = true then ((hist_Right.f (⟨#[255]⟩ : ByteArray)).bind fun t148 => (if t148 = true then (none) else ((hist_Clip.f (([(⟨#[]⟩ : ByteArray), (⟨#[97]⟩ : ByteArray)] : List ByteArray))).bind fun t152 => (some ((t152.length : Int) == 1))))) else (none))) else (none))) else (none)) = some r := H
        have A7 := Aside0.mk A70
        clear A70
        by_cases c8 : (t138.length : Int) = 1
        · rw [if_pos c8] at H
          have c8b0 : ((t138.length : Int) == 1) = true := beq_iff_eq.mpr c8
          have c8b1 : ((t138.length : Int) != 1) = false := bne_eq_false_iff_eq.mpr c8
          clear c8
          obtain ⟨y141, hy141⟩ : ∃ y_ : List ByteArray, y_ = (([(⟨#[97]⟩ : ByteArray)] : List ByteArray)) := ⟨_, rfl⟩
          replace H : ((hist_Add.f k y141 (⟨#[98]⟩ : ByteArray)).bind fun t144 => (if (t144.length : Int) = 2 then ((hist_Right.f (⟨#[195, 169]⟩ : ByteArray)).bind fun t147 => (if t147 = true then ((hist_Right.f (⟨#[255]⟩ : ByteArray)).bind fun t148 => (if t148 = true then (none) else ((hist_Clip.f (([(⟨#[]⟩ : ByteArray), (⟨#[97]⟩ : ByteArray)] : List ByteArray))).bind fun t152 => (some ((t152.length : Int) == 1))))) else (none))) else (none))) = some r := by first | (rw [hy141]; with_reducible exact H) | (have H2_ := (Option.bind_some _ _).symm.trans H; rw [hy141]; with_reducible exact H2_) | (have H2_ := (Option.bind_some _ _).symm.trans H; with_reducible exact H2_) | with_reducible exact H | (rw [hy141]; exact H) | exact H
          have Ny141 := Aside0.mk hy141
          clear hy141
          replace H := Option.bind_eq_some_iff.mp H
          obtain ⟨t144, A90, H⟩ := H
          replace H : (if (t144.length : Int) = 2 then ((hist_Right.f (⟨#[195, 169]⟩ : ByteArray)).bind fun t147 => (if t147 = true then ((hist_Right.f (⟨#[255]⟩ : ByteArray)).bind fun t148 => (if t148 = true then (none) else ((hist_Clip.f (([(⟨#[]⟩ : ByteArray), (⟨#[97]⟩ : ByteArray)] : List ByteArray))).bind fun t152 => (some ((t152.length : Int) == 1))))) else (none))) else (none)) = some r := H
          have A9 := Aside0.mk A90
          clear A90
          by_cases c10 : (t144.length : Int) = 2
          · rw [if_pos c10] at H
            have c10b0 : ((t144.length : Int) == 2) = true := beq_iff_eq.mpr c10
            have c10b1 : ((t144.length : Int) != 2) = false := bne_eq_false_iff_eq.mpr c10
            clear c10
            replace H := Option.bind_eq_some_iff.mp H
            obtain ⟨t147, A110, H⟩ := H
            replace H : (if t147 = true then ((hist_Right.f (⟨#[255]⟩ : ByteArray)).bind fun t148 => (if t148 = true then (none) else ((hist_Clip.f (([(⟨#[]⟩ : ByteArray), (⟨#[97]⟩ : ByteArray)] : List ByteArray))).bind fun t152 => (some ((t152.length : Int) == 1))))) else (none)) = some r := H
            have A11 := Aside0.mk A110
            clear A110
            by_cases c12 : t147 = true
            · subst c12
              have H1 : ((hist_Right.f (⟨#[255]⟩ : ByteArray)).bind fun t148 => (if t148 = true then (none) else ((hist_Clip.f (([(⟨#[]⟩ : ByteArray), (⟨#[97]⟩ : ByteArray)] : List ByteArray))).bind fun t152 => (some ((t152.length : Int) == 1))))) = some r := by rw [if_pos rfl] at H; exact H
              clear H
              have H := H1
              clear H1
              replace H := Option.bind_eq_some_iff.mp H
              obtain ⟨t148, A130, H⟩ := H
              replace H : (if t148 = true then (none) else ((hist_Clip.f (([(⟨#[]⟩ : ByteArray), (⟨#[97]⟩ : ByteArray)] : List ByteArray))).bind fun t152 => (some ((t152.length : Int) == 1)))) = some r := H
              have A13 := Aside0.mk A130
              clear A130
              by_cases c14 : t148 = true
              · subst c14
                have H1 : (none) = some r := by rw [if_pos rfl] at H; exact H
                clear H
                have H := H1
                clear H1
                exact absurd H (by simp)
              · replace c14 := Bool.eq_false_iff.mpr c14
                subst c14
                have H1 : ((hist_Clip.f (([(⟨#[]⟩ : ByteArray), (⟨#[97]⟩ : ByteArray)] : List ByteArray))).bind fun t152 => (some ((t152.length : Int) == 1))) = some r := by rw [if_neg (show ¬ (false = true) by decide)] at H; exact H
                clear H
                have H := H1
                clear H1
                obtain ⟨y149, hy149⟩ : ∃ y_ : List ByteArray, y_ = (([(⟨#[]⟩ : ByteArray), (⟨#[97]⟩ : ByteArray)] : List ByteArray)) := ⟨_, rfl⟩
                replace H : ((hist_Clip.f y149).bind fun t152 => (some ((t152.length : Int) == 1))) = some r := by first | (rw [hy149]; with_reducible exact H) | (have H2_ := (Option.bind_some _ _).symm.trans H; rw [hy149]; with_reducible exact H2_) | (have H2_ := (Option.bind_some _ _).symm.trans H; with_reducible exact H2_) | with_reducible exact H | (rw [hy149]; exact H) | exact H
                have Ny149 := Aside0.mk hy149
                clear hy149
                replace H := Option.bind_eq_some_iff.mp H
                obtain ⟨t152, A150, H⟩ := H
                replace H : (some ((t152.length : Int) == 1)) = some r := H
                have A15 := Aside0.mk A150
                clear A150
                obtain rfl := Option.some.inj H
                go_enter Tryd.func4, Tryd.ntmps4
                go_wp2_with (first | ((with_reducible refine gate_dst (N := 1) rfl ?_); (try (refine gate_guard (by rfl) ?_; dsimp only)); refine Kd.R_lit Kd.string _ 9 ?hg (N := 1) ?hd (xs := ([(⟨#[97, 98]⟩ : ByteArray), (⟨#[99]⟩ : ByteArray)] : List ByteArray)) (inner := [.string (⟨#[97, 98]⟩ : ByteArray), .string (⟨#[99]⟩ : ByteArray)]) (ok := fun _ => True) (okp := fun _ => True) ?hr ?hp (fun _ hk => hk) trivial (Below.refl _ _) (Nat.le_refl _) (by simp) ?_; (case hd => rfl); (case hg => rfl); (case hr => first | (go_simp; done) | (go_simp; rfl)); (case hp => exact (Reps.one (show Kd.M Kd.string _ _ _ (⟨#[97, 98]⟩ : ByteArray) [.string (⟨#[97, 98]⟩ : ByteArray)] from rfl) (Reps.one (show Kd.M Kd.string _ _ _ (⟨#[99]⟩ : ByteArray) [.string (⟨#[99]⟩ : ByteArray)] from rfl) (Reps.none _ _)))); intro v127 w16 ho17 hb hg_ hnew_; clear hg_ hnew_; (first | rw [← Ny126.out] at ho17 | (simp only [Int.reduceToNat] at ho17; rw [← Ny126.out] at ho17)); have n0_ := Aside0.mk (Kd.R_lower ho17 (below_size (by repeat (first | (with_reducible first | exact HB.out | apply below_alloc | apply pw_below_drewN | apply below_drew1) | exact HB.out)))); have n1_ := Aside0.mk (below_step (by repeat (first | (with_reducible first | exact HB.out | apply below_alloc | apply pw_below_drewN | apply below_drew1) | exact HB.out)) hb); clear HB; have HO128 := n0_; have HB := n1_; clear n0_ n1_; clear hb ho17; obtain ⟨Ao18, co18, eo18⟩ := Kd.R_slice HO128.out; subst eo18) | ((with_reducible refine gate_callee (f := 7) rfl ?_); refine goesL_ (some 2) rfl rfl Tryd.func7 (by kernel_rfl) rfl #[.slice Ao18 y126.length co18, .string (⟨#[98]⟩ : ByteArray), .int .i64 5, .bool true] rfl (by (try simp only [List.map_toArray, List.map_cons, List.map_nil]); first | done | rfl | (simp only [List.length_drop, List.length_take]; rfl)) ?_; (with_reducible refine (hist_Find.calls k _ _ y126 (⟨#[98]⟩ : ByteArray) 5 true t129 _ ?side1 ?side2 A1.out).mono ?_); (case side1 => repeat (first | exact (Kd.R_reads' HO128.out).2.2 | (with_reducible refine Kd.C_alloc ?_ _) | (with_reducible refine Kd.C_drewN ?_ _) | (with_reducible refine Kd.C_drew ?_))); (case side2 => exact (Kd.R_reads' HO128.out).2.1); rintro e w19 ⟨rfl, hb⟩; refine ⟨_, rfl, ?_⟩; have n0_ := Aside0.mk (Kd.R_below (by (with_reducible repeat (first | apply Kd.R_alloc | apply Kd.R_drewN | apply Kd.R_drew)); exact HO128.out) hb); have n1_ := Aside0.mk (below_step (by repeat (first | (with_reducible first | exact HB.out | apply below_alloc | apply pw_below_drewN | apply below_drew1) | exact HB.out)) hb); clear HO128; clear HB; have HO128 := n0_; have HB := n1_; clear n0_ n1_; (try clear hb); (try clear hb2); (try clear hk); (try clear hi)) | ((with_reducible refine gate_dst (N := 5) rfl ?_); (try (refine gate_guard (by rfl) ?_; dsimp only)); refine Kd.R_lit Kd.string _ 9 ?hg (N := 5) ?hd (xs := ([(⟨#[97, 98]⟩ : ByteArray), (⟨#[99]⟩ : ByteArray)] : List ByteArray)) (inner := [.string (⟨#[97, 98]⟩ : ByteArray), .string (⟨#[99]⟩ : ByteArray)]) (ok := fun _ => True) (okp := fun _ => True) ?hr ?hp (fun _ hk => hk) trivial (Below.refl _ _) (Nat.le_refl _) (by simp) ?_; (case hd => rfl); (case hg => rfl); (case hr => first | (go_simp; done) | (go_simp; rfl)); (case hp => exact (Reps.one (show Kd.M Kd.string _ _ _ (⟨#[97, 98]⟩ : ByteArray) [.string (⟨#[97, 98]⟩ : ByteArray)] from rfl) (Reps.one (show Kd.M Kd.string _ _ _ (⟨#[99]⟩ : ByteArray) [.string (⟨#[99]⟩ : ByteArray)] from rfl) (Reps.none _ _)))); intro v131 w20 ho21 hb hg_ hnew_; clear hg_ hnew_; (first | rw [← Ny130.out] at ho21 | (simp only [Int.reduceToNat] at ho21; rw [← Ny130.out] at ho21)); have n0_ := Aside0.mk (Kd.R_elder' (by (with_reducible repeat (first | apply Kd.R_alloc | apply Kd.R_drewN | apply Kd.R_drew)); exact HO128.out) (Kd.R_base ho21) hb); have n1_ := Aside0.mk (Kd.R_lower (Kd.R_new' ho21 (Kd.R_lt (by (with_reducible repeat (first | apply Kd.R_alloc | apply Kd.R_drewN | apply Kd.R_drew)); exact HO128.out))) (below_size (by repeat (first | (with_reducible first | exact HB.out | apply below_alloc | apply pw_below_drewN | apply below_drew1) | exact HB.out)))); have n2_ := Aside0.mk (below_step (by repeat (first | (with_reducible first | exact HB.out | apply below_alloc | apply pw_below_drewN | apply below_drew1) | exact HB.out)) hb); clear HO128; clear HB; have HO128 := n0_; have HO132 := n1_; have HB := n2_; clear n0_ n1_ n2_; clear hb ho21; obtain ⟨Ao22, co22, eo22⟩ := Kd.R_slice HO132.out; subst eo22) | (go_at_call 7; (with_reducible refine (hist_Find.calls k _ _ y130 (⟨#[98]⟩ : ByteArray) 1 false t133 _ ?side1 ?side2 A3.out).mono ?_); (case side1 => repeat (first | exact (Kd.R_reads' HO132.out).2.2 | (with_reducible refine Kd.C_alloc ?_ _) | (with_reducible refine Kd.C_drewN ?_ _) | (with_reducible refine Kd.C_drew ?_))); (case side2 => exact (Kd.R_reads' HO132.out).2.1); rintro e w23 ⟨rfl, hb⟩; have n0_ := Aside0.mk (Kd.R_below (by (with_reducible repeat (first | apply Kd.R_alloc | apply Kd.R_drewN | apply Kd.R_drew)); exact HO128.out) hb); have n1_ := Aside0.mk (Kd.R_below (by (with_reducible repeat (first | apply Kd.R_alloc | apply Kd.R_drewN | apply Kd.R_drew)); exact HO132.out) hb); have n2_ := Aside0.mk (below_step (by repeat (first | (with_reducible first | exact HB.out | apply below_alloc | apply pw_below_drewN | apply below_drew1) | exact HB.out)) hb); clear HO128; clear HO132; clear HB; have HO128 := n0_; have HO132 := n1_; have HB := n2_; clear n0_ n1_ n2_; (try clear hb); (try clear hb2); (try clear hk); (try clear hi)) | (go_at_call 8; (with_reducible refine (hist_Place.calls (⟨#[195, 169, 97, 98]⟩ : ByteArray) (⟨#[98]⟩ : ByteArray) t134 _ A5.out).mono ?_); rintro e w24 ⟨rfl, hb⟩; have n0_ := Aside0.mk (Kd.R_below (by (with_reducible repeat (first | apply Kd.R_alloc | apply Kd.R_drewN | apply Kd.R_drew)); exact HO128.out) hb); have n1_ := Aside0.mk (Kd.R_below (by (with_reducible repeat (first | apply Kd.R_alloc | apply Kd.R_drewN | apply Kd.R_drew)); exact HO132.out) hb); have n2_ := Aside0.mk (below_step (by repeat (first | (with_reducible first | exact HB.out | apply below_alloc | apply pw_below_drewN | apply below_drew1) | exact HB.out)) hb); clear HO128; clear HO132; clear HB; have HO128 := n0_; have HO132 := n1_; have HB := n2_; clear n0_ n1_ n2_; (try clear hb); (try clear hb2); (try clear hk); (try clear hi)) | ((with_reducible refine gate_dst (N := 14) rfl ?_); (try (refine gate_guard (by rfl) ?_; dsimp only)); refine Kd.R_lit Kd.string _ 9 ?hg (N := 14) ?hd (xs := ([(⟨#[97]⟩ : ByteArray)] : List ByteArray)) (inner := [.string (⟨#[97]⟩ : ByteArray)]) (ok := fun _ => True) (okp := fun _ => True) ?hr ?hp (fun _ hk => hk) trivial (Below.refl _ _) (Nat.le_refl _) (by simp) ?_; (case hd => rfl); (case hg => rfl); (case hr => first | (go_simp; done) | (go_simp; rfl)); (case hp => exact (Reps.one (show Kd.M Kd.string _ _ _ (⟨#[97]⟩ : ByteArray) [.string (⟨#[97]⟩ : ByteArray)] from rfl) (Reps.none _ _))); intro v136 w25 ho26 hb hg_ hnew_; clear hg_ hnew_; (first | rw [← Ny135.out] at ho26 | (simp only [Int.reduceToNat] at ho26; rw [← Ny135.out] at ho26)); have n0_ := Aside0.mk (Kd.R_elder' (by (with_reducible repeat (first | apply Kd.R_alloc | apply Kd.R_drewN | apply Kd.R_drew)); exact HO128.out) (Kd.R_base ho26) hb); have n1_ := Aside0.mk (Kd.R_elder' (by (with_reducible repeat (first | apply Kd.R_alloc | apply Kd.R_drewN | apply Kd.R_drew)); exact HO132.out) (Kd.R_base ho26) hb); have n2_ := Aside0.mk (Kd.R_lower (Kd.R_new' (Kd.R_new' ho26 (Kd.R_lt (by (with_reducible repeat (first | apply Kd.R_alloc | apply Kd.R_drewN | apply Kd.R_drew)); exact HO128.out))) (Kd.R_lt (by (with_reducible repeat (first | apply Kd.R_alloc | apply Kd.R_drewN | apply Kd.R_drew)); exact HO132.out))) (below_size (by repeat (first | (with_reducible first | exact HB.out | apply below_alloc | apply pw_below_drewN | apply below_drew1) | exact HB.out)))); have n3_ := Aside0.mk (below_step (by repeat (first | (with_reducible first | exact HB.out | apply below_alloc | apply pw_below_drewN | apply below_drew1) | exact HB.out)) hb); clear HO128; clear HO132; clear HB; have HO128 := n0_; have HO132 := n1_; have HO137 := n2_; have HB := n3_; clear n0_ n1_ n2_ n3_; clear hb ho26; obtain ⟨Ao27, co27, eo27⟩ := Kd.R_slice HO137.out; subst eo27) | (go_at_call 6; (with_reducible refine (hist_Add.calls k _ _ y135 (⟨#[97]⟩ : ByteArray) t138 _ ?side1 ?side2 A7.out).mono ?_); (case side1 => repeat (first | exact (Kd.R_reads' HO137.out).2.2 | (with_reducible refine Kd.C_alloc ?_ _) | (with_reducible refine Kd.C_drewN ?_ _) | (with_reducible refine Kd.C_drew ?_))); (case side2 => exact (Kd.R_reads' HO137.out).2.1); rintro e w28 ⟨v139, rfl, ho0, hb⟩; have n0_ := Aside0.mk (Kd.R_elder' (by (with_reducible repeat (first | apply Kd.R_alloc | apply Kd.R_drewN | apply Kd.R_drew)); exact HO128.out) (Kd.R_base ho0) hb); have n1_ := Aside0.mk (Kd.R_elder' (by (with_reducible repeat (first | apply Kd.R_alloc | apply Kd.R_drewN | apply Kd.R_drew)); exact HO132.out) (Kd.R_base ho0) hb); have n2_ := Aside0.mk (Kd.R_elder' (by (with_reducible repeat (first | apply Kd.R_alloc | apply Kd.R_drewN | apply Kd.R_drew)); exact HO137.out) (Kd.R_base ho0) hb); have n3_ := Aside0.mk (Kd.R_lower (Kd.R_new' (Kd.R_new' (Kd.R_new' ho0 (Kd.R_lt (by (with_reducible repeat (first | apply Kd.R_alloc | apply Kd.R_drewN | apply Kd.R_drew)); exact HO128.out))) (Kd.R_lt (by (with_reducible repeat (first | apply Kd.R_alloc | apply Kd.R_drewN | apply Kd.R_drew)); exact HO132.out))) (Kd.R_lt (by (with_reducible repeat (first | apply Kd.R_alloc | apply Kd.R_drewN | apply Kd.R_drew)); exact HO137.out))) (below_size (by repeat (first | (with_reducible first | exact HB.out | apply below_alloc | apply pw_below_drewN | apply below_drew1) | exact HB.out)))); have n4_ := Aside0.mk (below_step (by repeat (first | (with_reducible first | exact HB.out | apply below_alloc | apply pw_below_drewN | apply below_drew1) | exact HB.out)) hb); clear HO128; clear HO132; clear HO137; clear HB; have HO128 := n0_; have HO132 := n1_; have HO137 := n2_; have HO140 := n3_; have HB := n4_; clear n0_ n1_ n2_ n3_ n4_; (try clear hb); (try clear hb2); (try clear hk); (try clear hi); (try clear ho0); obtain ⟨Ao29, co29, eo29⟩ := Kd.R_slice HO140.out; subst eo29) | ((with_reducible refine gate_dst (N := 20) rfl ?_); (try (refine gate_guard (by rfl) ?_; dsimp only)); refine Kd.R_lit Kd.string _ 9 ?hg (N := 20) ?hd (xs := ([(⟨#[97]⟩ : ByteArray)] : List ByteArray)) (inner := [.string (⟨#[97]⟩ : ByteArray)]) (ok := fun _ => True) (okp := fun _ => True) ?hr ?hp (fun _ hk => hk) trivial (Below.refl _ _) (Nat.le_refl _) (by simp) ?_; (case hd => rfl); (case hg => rfl); (case hr => first | (go_simp; done) | (go_simp; rfl)); (case hp => exact (Reps.one (show Kd.M Kd.string _ _ _ (⟨#[97]⟩ : ByteArray) [.string (⟨#[97]⟩ : ByteArray)] from rfl) (Reps.none _ _))); intro v142 w30 ho31 hb hg_ hnew_; clear hg_ hnew_; (first | rw [← Ny141.out] at ho31 | (simp only [Int.reduceToNat] at ho31; rw [← Ny141.out] at ho31)); have n0_ := Aside0.mk (Kd.R_elder' (by (with_reducible repeat (first | apply Kd.R_alloc | apply Kd.R_drewN | apply Kd.R_drew)); exact HO128.out) (Kd.R_base ho31) hb); have n1_ := Aside0.mk (Kd.R_elder' (by (with_reducible repeat (first | apply Kd.R_alloc | apply Kd.R_drewN | apply Kd.R_drew)); exact HO132.out) (Kd.R_base ho31) hb); have n2_ := Aside0.mk (Kd.R_elder' (by (with_reducible repeat (first | apply Kd.R_alloc | apply Kd.R_drewN | apply Kd.R_drew)); exact HO137.out) (Kd.R_base ho31) hb); have n3_ := Aside0.mk (Kd.R_elder' (by (with_reducible repeat (first | apply Kd.R_alloc | apply Kd.R_drewN | apply Kd.R_drew)); exact HO140.out) (Kd.R_base ho31) hb); have n4_ := Aside0.mk (Kd.R_lower (Kd.R_new' (Kd.R_new' (Kd.R_new' (Kd.R_new' ho31 (Kd.R_lt (by (with_reducible repeat (first | apply Kd.R_alloc | apply Kd.R_drewN | apply Kd.R_drew)); exact HO128.out))) (Kd.R_lt (by (with_reducible repeat (first | apply Kd.R_alloc | apply Kd.R_drewN | apply Kd.R_drew)); exact HO132.out))) (Kd.R_lt (by (with_reducible repeat (first | apply Kd.R_alloc | apply Kd.R_drewN | apply Kd.R_drew)); exact HO137.out))) (Kd.R_lt (by (with_reducible repeat (first | apply Kd.R_alloc | apply Kd.R_drewN | apply Kd.R_drew)); exact HO140.out))) (below_size (by repeat (first | (with_reducible first | exact HB.out | apply below_alloc | apply pw_below_drewN | apply below_drew1) | exact HB.out)))); have n5_ := Aside0.mk (below_step (by repeat (first | (with_reducible first | exact HB.out | apply below_alloc | apply pw_below_drewN | apply below_drew1) | exact HB.out)) hb); clear HO128; clear HO132; clear HO137; clear HO140; clear HB; have HO128 := n0_; have HO132 := n1_; have HO137 := n2_; have HO140 := n3_; have HO143 := n4_; have HB := n5_; clear n0_ n1_ n2_ n3_ n4_ n5_; clear hb ho31; obtain ⟨Ao32, co32, eo32⟩ := Kd.R_slice HO143.out; subst eo32) | (go_at_call 6; (with_reducible refine (hist_Add.calls k _ _ y141 (⟨#[98]⟩ : ByteArray) t144 _ ?side1 ?side2 A9.out).mono ?_); (case side1 => repeat (first | exact (Kd.R_reads' HO143.out).2.2 | (with_reducible refine Kd.C_alloc ?_ _) | (with_reducible refine Kd.C_drewN ?_ _) | (with_reducible refine Kd.C_drew ?_))); (case side2 => exact (Kd.R_reads' HO143.out).2.1); rintro e w33 ⟨v145, rfl, ho0, hb⟩; have n0_ := Aside0.mk (Kd.R_elder' (by (with_reducible repeat (first | apply Kd.R_alloc | apply Kd.R_drewN | apply Kd.R_drew)); exact HO128.out) (Kd.R_base ho0) hb); have n1_ := Aside0.mk (Kd.R_elder' (by (with_reducible repeat (first | apply Kd.R_alloc | apply Kd.R_drewN | apply Kd.R_drew)); exact HO132.out) (Kd.R_base ho0) hb); have n2_ := Aside0.mk (Kd.R_elder' (by (with_reducible repeat (first | apply Kd.R_alloc | apply Kd.R_drewN | apply Kd.R_drew)); exact HO137.out) (Kd.R_base ho0) hb); have n3_ := Aside0.mk (Kd.R_elder' (by (with_reducible repeat (first | apply Kd.R_alloc | apply Kd.R_drewN | apply Kd.R_drew)); exact HO140.out) (Kd.R_base ho0) hb); have n4_ := Aside0.mk (Kd.R_elder' (by (with_reducible repeat (first | apply Kd.R_alloc | apply Kd.R_drewN | apply Kd.R_drew)); exact HO143.out) (Kd.R_base ho0) hb); have n5_ := Aside0.mk (Kd.R_lower (Kd.R_new' (Kd.R_new' (Kd.R_new' (Kd.R_new' (Kd.R_new' ho0 (Kd.R_lt (by (with_reducible repeat (first | apply Kd.R_alloc | apply Kd.R_drewN | apply Kd.R_drew)); exact HO128.out))) (Kd.R_lt (by (with_reducible repeat (first | apply Kd.R_alloc | apply Kd.R_drewN | apply Kd.R_drew)); exact HO132.out))) (Kd.R_lt (by (with_reducible repeat (first | apply Kd.R_alloc | apply Kd.R_drewN | apply Kd.R_drew)); exact HO137.out))) (Kd.R_lt (by (with_reducible repeat (first | apply Kd.R_alloc | apply Kd.R_drewN | apply Kd.R_drew)); exact HO140.out))) (Kd.R_lt (by (with_reducible repeat (first | apply Kd.R_alloc | apply Kd.R_drewN | apply Kd.R_drew)); exact HO143.out))) (below_size (by repeat (first | (with_reducible first | exact HB.out | apply below_alloc | apply pw_below_drewN | apply below_drew1) | exact HB.out)))); have n6_ := Aside0.mk (below_step (by repeat (first | (with_reducible first | exact HB.out | apply below_alloc | apply pw_below_drewN | apply below_drew1) | exact HB.out)) hb); clear HO128; clear HO132; clear HO137; clear HO140; clear HO143; clear HB; have HO128 := n0_; have HO132 := n1_; have HO137 := n2_; have HO140 := n3_; have HO143 := n4_; have HO146 := n5_; have HB := n6_; clear n0_ n1_ n2_ n3_ n4_ n5_ n6_; (try clear hb); (try clear hb2); (try clear hk); (try clear hi); (try clear ho0); obtain ⟨Ao34, co34, eo34⟩ := Kd.R_slice HO146.out; subst eo34) | (go_at_call 9; (with_reducible refine (hist_Right.calls (⟨#[195, 169]⟩ : ByteArray) true _ A11.out).mono ?_); rintro e w35 ⟨rfl, hb⟩; have n0_ := Aside0.mk (Kd.R_below (by (with_reducible repeat (first | apply Kd.R_alloc | apply Kd.R_drewN | apply Kd.R_drew)); exact HO128.out) hb); have n1_ := Aside0.mk (Kd.R_below (by (with_reducible repeat (first | apply Kd.R_alloc | apply Kd.R_drewN | apply Kd.R_drew)); exact HO132.out) hb); have n2_ := Aside0.mk (Kd.R_below (by (with_reducible repeat (first | apply Kd.R_alloc | apply Kd.R_drewN | apply Kd.R_drew)); exact HO137.out) hb); have n3_ := Aside0.mk (Kd.R_below (by (with_reducible repeat (first | apply Kd.R_alloc | apply Kd.R_drewN | apply Kd.R_drew)); exact HO140.out) hb); have n4_ := Aside0.mk (Kd.R_below (by (with_reducible repeat (first | apply Kd.R_alloc | apply Kd.R_drewN | apply Kd.R_drew)); exact HO143.out) hb); have n5_ := Aside0.mk (Kd.R_below (by (with_reducible repeat (first | apply Kd.R_alloc | apply Kd.R_drewN | apply Kd.R_drew)); exact HO146.out) hb); have n6_ := Aside0.mk (below_step (by repeat (first | (with_reducible first | exact HB.out | apply below_alloc | apply pw_below_drewN | apply below_drew1) | exact HB.out)) hb); clear HO128; clear HO132; clear HO137; clear HO140; clear HO143; clear HO146; clear HB; have HO128 := n0_; have HO132 := n1_; have HO137 := n2_; have HO140 := n3_; have HO143 := n4_; have HO146 := n5_; have HB := n6_; clear n0_ n1_ n2_ n3_ n4_ n5_ n6_; (try clear hb); (try clear hb2); (try clear hk); (try clear hi)) | (go_at_call 9; (with_reducible refine (hist_Right.calls (⟨#[255]⟩ : ByteArray) false _ A13.out).mono ?_); rintro e w36 ⟨rfl, hb⟩; have n0_ := Aside0.mk (Kd.R_below (by (with_reducible repeat (first | apply Kd.R_alloc | apply Kd.R_drewN | apply Kd.R_drew)); exact HO128.out) hb); have n1_ := Aside0.mk (Kd.R_below (by (with_reducible repeat (first | apply Kd.R_alloc | apply Kd.R_drewN | apply Kd.R_drew)); exact HO132.out) hb); have n2_ := Aside0.mk (Kd.R_below (by (with_reducible repeat (first | apply Kd.R_alloc | apply Kd.R_drewN | apply Kd.R_drew)); exact HO137.out) hb); have n3_ := Aside0.mk (Kd.R_below (by (with_reducible repeat (first | apply Kd.R_alloc | apply Kd.R_drewN | apply Kd.R_drew)); exact HO140.out) hb); have n4_ := Aside0.mk (Kd.R_below (by (with_reducible repeat (first | apply Kd.R_alloc | apply Kd.R_drewN | apply Kd.R_drew)); exact HO143.out) hb); have n5_ := Aside0.mk (Kd.R_below (by (with_reducible repeat (first | apply Kd.R_alloc | apply Kd.R_drewN | apply Kd.R_drew)); exact HO146.out) hb); have n6_ := Aside0.mk (below_step (by repeat (first | (with_reducible first | exact HB.out | apply below_alloc | apply pw_below_drewN | apply below_drew1) | exact HB.out)) hb); clear HO128; clear HO132; clear HO137; clear HO140; clear HO143; clear HO146; clear HB; have HO128 := n0_; have HO132 := n1_; have HO137 := n2_; have HO140 := n3_; have HO143 := n4_; have HO146 := n5_; have HB := n6_; clear n0_ n1_ n2_ n3_ n4_ n5_ n6_; (try clear hb); (try clear hb2); (try clear hk); (try clear hi)) | ((with_reducible refine gate_dst (N := 33) rfl ?_); (try (refine gate_guard (by rfl) ?_; dsimp only)); refine Kd.R_lit Kd.string _ 9 ?hg (N := 33) ?hd (xs := ([(⟨#[]⟩ : ByteArray), (⟨#[97]⟩ : ByteArray)] : List ByteArray)) (inner := [.string (⟨#[]⟩ : ByteArray), .string (⟨#[97]⟩ : ByteArray)]) (ok := fun _ => True) (okp := fun _ => True) ?hr ?hp (fun _ hk => hk) trivial (Below.refl _ _) (Nat.le_refl _) (by simp) ?_; (case hd => rfl); (case hg => rfl); (case hr => first | (go_simp; done) | (go_simp; rfl)); (case hp => exact (Reps.one (show Kd.M Kd.string _ _ _ (⟨#[]⟩ : ByteArray) [.string (⟨#[]⟩ : ByteArray)] from rfl) (Reps.one (show Kd.M Kd.string _ _ _ (⟨#[97]⟩ : ByteArray) [.string (⟨#[97]⟩ : ByteArray)] from rfl) (Reps.none _ _)))); intro v150 w37 ho38 hb hg_ hnew_; clear hg_ hnew_; (first | rw [← Ny149.out] at ho38 | (simp only [Int.reduceToNat] at ho38; rw [← Ny149.out] at ho38)); have n0_ := Aside0.mk (Kd.R_elder' (by (with_reducible repeat (first | apply Kd.R_alloc | apply Kd.R_drewN | apply Kd.R_drew)); exact HO128.out) (Kd.R_base ho38) hb); have n1_ := Aside0.mk (Kd.R_elder' (by (with_reducible repeat (first | apply Kd.R_alloc | apply Kd.R_drewN | apply Kd.R_drew)); exact HO132.out) (Kd.R_base ho38) hb); have n2_ := Aside0.mk (Kd.R_elder' (by (with_reducible repeat (first | apply Kd.R_alloc | apply Kd.R_drewN | apply Kd.R_drew)); exact HO137.out) (Kd.R_base ho38) hb); have n3_ := Aside0.mk (Kd.R_elder' (by (with_reducible repeat (first | apply Kd.R_alloc | apply Kd.R_drewN | apply Kd.R_drew)); exact HO140.out) (Kd.R_base ho38) hb); have n4_ := Aside0.mk (Kd.R_elder' (by (with_reducible repeat (first | apply Kd.R_alloc | apply Kd.R_drewN | apply Kd.R_drew)); exact HO143.out) (Kd.R_base ho38) hb); have n5_ := Aside0.mk (Kd.R_elder' (by (with_reducible repeat (first | apply Kd.R_alloc | apply Kd.R_drewN | apply Kd.R_drew)); exact HO146.out) (Kd.R_base ho38) hb); have n6_ := Aside0.mk (Kd.R_lower (Kd.R_new' (Kd.R_new' (Kd.R_new' (Kd.R_new' (Kd.R_new' (Kd.R_new' ho38 (Kd.R_lt (by (with_reducible repeat (first | apply Kd.R_alloc | apply Kd.R_drewN | apply Kd.R_drew)); exact HO128.out))) (Kd.R_lt (by (with_reducible repeat (first | apply Kd.R_alloc | apply Kd.R_drewN | apply Kd.R_drew)); exact HO132.out))) (Kd.R_lt (by (with_reducible repeat (first | apply Kd.R_alloc | apply Kd.R_drewN | apply Kd.R_drew)); exact HO137.out))) (Kd.R_lt (by (with_reducible repeat (first | apply Kd.R_alloc | apply Kd.R_drewN | apply Kd.R_drew)); exact HO140.out))) (Kd.R_lt (by (with_reducible repeat (first | apply Kd.R_alloc | apply Kd.R_drewN | apply Kd.R_drew)); exact HO143.out))) (Kd.R_lt (by (with_reducible repeat (first | apply Kd.R_alloc | apply Kd.R_drewN | apply Kd.R_drew)); exact HO146.out))) (below_size (by repeat (first | (with_reducible first | exact HB.out | apply below_alloc | apply pw_below_drewN | apply below_drew1) | exact HB.out)))); have n7_ := Aside0.mk (below_step (by repeat (first | (with_reducible first | exact HB.out | apply below_alloc | apply pw_below_drewN | apply below_drew1) | exact HB.out)) hb); clear HO128; clear HO132; clear HO137; clear HO140; clear HO143; clear HO146; clear HB; have HO128 := n0_; have HO132 := n1_; have HO137 := n2_; have HO140 := n3_; have HO143 := n4_; have HO146 := n5_; have HO151 := n6_; have HB := n7_; clear n0_ n1_ n2_ n3_ n4_ n5_ n6_ n7_; clear hb ho38; obtain ⟨Ao39, co39, eo39⟩ := Kd.R_slice HO151.out; subst eo39) | (go_at_call 5; (with_reducible refine (hist_Clip.calls _ _ y149 t152 _ ?side1 ?side2 A15.out).mono ?_); (case side1 => repeat (first | exact (Kd.R_reads' HO151.out).2.2 | (with_reducible refine Kd.C_alloc ?_ _) | (with_reducible refine Kd.C_drewN ?_ _) | (with_reducible refine Kd.C_drew ?_))); (case side2 => exact (Kd.R_reads' HO151.out).2.1); rintro e w40 ⟨v153, rfl, ho0, hb⟩; have n0_ := Aside0.mk (Kd.R_elder' (by (with_reducible repeat (first | apply Kd.R_alloc | apply Kd.R_drewN | apply Kd.R_drew)); exact HO128.out) (Kd.R_base ho0) hb); have n1_ := Aside0.mk (Kd.R_elder' (by (with_reducible repeat (first | apply Kd.R_alloc | apply Kd.R_drewN | apply Kd.R_drew)); exact HO132.out) (Kd.R_base ho0) hb); have n2_ := Aside0.mk (Kd.R_elder' (by (with_reducible repeat (first | apply Kd.R_alloc | apply Kd.R_drewN | apply Kd.R_drew)); exact HO137.out) (Kd.R_base ho0) hb); have n3_ := Aside0.mk (Kd.R_elder' (by (with_reducible repeat (first | apply Kd.R_alloc | apply Kd.R_drewN | apply Kd.R_drew)); exact HO140.out) (Kd.R_base ho0) hb); have n4_ := Aside0.mk (Kd.R_elder' (by (with_reducible repeat (first | apply Kd.R_alloc | apply Kd.R_drewN | apply Kd.R_drew)); exact HO143.out) (Kd.R_base ho0) hb); have n5_ := Aside0.mk (Kd.R_elder' (by (with_reducible repeat (first | apply Kd.R_alloc | apply Kd.R_drewN | apply Kd.R_drew)); exact HO146.out) (Kd.R_base ho0) hb); have n6_ := Aside0.mk (Kd.R_elder' (by (with_reducible repeat (first | apply Kd.R_alloc | apply Kd.R_drewN | apply Kd.R_drew)); exact HO151.out) (Kd.R_base ho0) hb); have n7_ := Aside0.mk (Kd.R_lower (Kd.R_new' (Kd.R_new' (Kd.R_new' (Kd.R_new' (Kd.R_new' (Kd.R_new' (Kd.R_new' ho0 (Kd.R_lt (by (with_reducible repeat (first | apply Kd.R_alloc | apply Kd.R_drewN | apply Kd.R_drew)); exact HO128.out))) (Kd.R_lt (by (with_reducible repeat (first | apply Kd.R_alloc | apply Kd.R_drewN | apply Kd.R_drew)); exact HO132.out))) (Kd.R_lt (by (with_reducible repeat (first | apply Kd.R_alloc | apply Kd.R_drewN | apply Kd.R_drew)); exact HO137.out))) (Kd.R_lt (by (with_reducible repeat (first | apply Kd.R_alloc | apply Kd.R_drewN | apply Kd.R_drew)); exact HO140.out))) (Kd.R_lt (by (with_reducible repeat (first | apply Kd.R_alloc | apply Kd.R_drewN | apply Kd.R_drew)); exact HO143.out))) (Kd.R_lt (by (with_reducible repeat (first | apply Kd.R_alloc | apply Kd.R_drewN | apply Kd.R_drew)); exact HO146.out))) (Kd.R_lt (by (with_reducible repeat (first | apply Kd.R_alloc | apply Kd.R_drewN | apply Kd.R_drew)); exact HO151.out))) (below_size (by repeat (first | (with_reducible first | exact HB.out | apply below_alloc | apply pw_below_drewN | apply below_drew1) | exact HB.out)))); have n8_ := Aside0.mk (below_step (by repeat (first | (with_reducible first | exact HB.out | apply below_alloc | apply pw_below_drewN | apply below_drew1) | exact HB.out)) hb); clear HO128; clear HO132; clear HO137; clear HO140; clear HO143; clear HO146; clear HO151; clear HB; have HO128 := n0_; have HO132 := n1_; have HO137 := n2_; have HO140 := n3_; have HO143 := n4_; have HO146 := n5_; have HO151 := n6_; have HO154 := n7_; have HB := n8_; clear n0_ n1_ n2_ n3_ n4_ n5_ n6_ n7_ n8_; (try clear hb); (try clear hb2); (try clear hk); (try clear hi); (try clear ho0); obtain ⟨Ao41, co41, eo41⟩ := Kd.R_slice HO154.out; subst eo41))
                go_ret
                exact ⟨by first | rfl | (simp [errW_none, errW_some] <;> rfl) | (simp [*, errW_none, errW_some] <;> rfl), by repeat (first | (with_reducible first | exact HB.out | apply below_alloc | apply pw_below_drewN | apply below_drew1) | exact HB.out)⟩
            · replace c12 := Bool.eq_false_iff.mpr c12
              subst c12
              have H1 : (none) = some r := by rw [if_neg (show ¬ (false = true) by decide)] at H; exact H
              clear H
              have H := H1
              clear H1
              exact absurd H (by simp)
          · rw [if_neg c10] at H
            exact absurd H (by simp)
        · rw [if_neg c8] at H
          exact absurd H (by simp)
      · rw [if_neg c6] at H
        exact absurd H (by simp)
    · rw [if_neg c4] at H
      exact absurd H (by simp)
  · rw [if_neg c2] at H
    exact absurd H (by simp)

/-! ### repriselaw15_HistMany: function 3 -/
def repriselaw15_HistMany.l0 : Nat → List ByteArray → Int → Option (Bool)
  | 0, _, _ => none
  | k + 1, x3, x4 => if x4 < (x3.length : Int) then ((some (([(⟨#[97]⟩ : ByteArray), (⟨#[98]⟩ : ByteArray)] : List ByteArray) : List ByteArray)).bind fun y159 => (if 0 ≤ (Int.tmod x4 2) then (if (Int.tmod x4 2) < (y159.length : Int) then (if 0 ≤ x4 then (repriselaw15_HistMany.l0 k (x3.set (x4 : Int).toNat (rdOf ByteArray.empty y159 (Int.tmod x4 2))) (wrap64 (x4 + 1))) else (none)) else (none)) else (none))) else (if 0 < (x3.length : Int) then ((hist_Clip.f (x3.set (0 : Int).toNat (⟨#[102, 105, 114, 115, 116]⟩ : ByteArray))).bind fun t165 => ((hist_Add.f k t165 (⟨#[110, 101, 119]⟩ : ByteArray)).bind fun t168 => (if (t165.length : Int) = (mn (x3.length : Int) 10000) then (if (t168.length : Int) = (mn (wrap64 ((t165.length : Int) + 1)) 10000) then (if 0 ≤ (wrap64 ((t168.length : Int) - 1)) then (if (wrap64 ((t168.length : Int) - 1)) < (t168.length : Int) then (if (rdOf ByteArray.empty t168 (wrap64 ((t168.length : Int) - 1))).toList = ([110, 101, 119] : List UInt8) then (if 0 < (t165.length : Int) then (if (((rdOf ByteArray.empty t165 0).toList == ([102, 105, 114, 115, 116] : List UInt8)) == (decide ((x3.length : Int) ≤ 10000))) = true then (if 0 < (t168.length : Int) then (some (((rdOf ByteArray.empty t168 0).toList == ([102, 105, 114, 115, 116] : List UInt8)) == (decide ((x3.length : Int) < 10000)))) else (none)) else (none)) else (none)) else (none)) else (none)) else (none)) else (none)) else (none)))) else (none))
def repriselaw15_HistMany.f (k : Nat) (a0 : Int) : Option (Bool) := (repriselaw15_known.f k).bind fun t155 => (if t155 = true then (if 0 ≤ (wrap64 (9998 + (wrap64 (Int.tmod a0 4)))) then (if (wrap64 (9998 + (wrap64 (Int.tmod a0 4))) : Int).toNat ≤ 17592186044416 then (repriselaw15_HistMany.l0 k (List.replicate (wrap64 (9998 + (wrap64 (Int.tmod a0 4))) : Int).toNat (⟨#[]⟩ : ByteArray)) 0) else (none)) else (none)) else (none))
theorem repriselaw15_HistMany.mono_l : ∀ k, (∀ y0 y1, LeO (repriselaw15_HistMany.l0 k y0 y1) (repriselaw15_HistMany.l0 (k + 1) y0 y1))
  | 0 => fun _ _ r h => by simp [repriselaw15_HistMany.l0] at h
  | k + 1 => by
    have ih0 := repriselaw15_HistMany.mono_l k
    · intro y0 y1
      unfold repriselaw15_HistMany.l0
      repeat' first
      | (with_reducible exact ih0 _ _)
      | (with_reducible exact hist_Add.mono _ _ _)
      | (with_reducible exact repriselaw15_known.mono _)
      | (with_reducible exact LeO.refl _)
      | (with_reducible exact LeO.none _)
      | (with_reducible refine LeO.ite ?_ ?_)
      | (with_reducible refine LeO.bind ?_ (fun _ => ?_))
      | exact ih0 _ _
      | exact hist_Add.mono _ _ _
      | exact repriselaw15_known.mono _
      | exact LeO.none _
      | refine LeO.ite ?_ ?_
      | refine LeO.bind ?_ (fun _ => ?_)
theorem repriselaw15_HistMany.mono : ∀ a0 k, LeO (repriselaw15_HistMany.f k a0) (repriselaw15_HistMany.f (k + 1) a0) := by
  intro a0 k
  have ih0 := repriselaw15_HistMany.mono_l k
  unfold repriselaw15_HistMany.f
  repeat' first
      | (with_reducible exact ih0 _ _)
      | (with_reducible exact hist_Add.mono _ _ _)
      | (with_reducible exact repriselaw15_known.mono _)
      | (with_reducible exact LeO.refl _)
      | (with_reducible exact LeO.none _)
      | (with_reducible refine LeO.ite ?_ ?_)
      | (with_reducible refine LeO.bind ?_ (fun _ => ?_))
      | exact ih0 _ _
      | exact hist_Add.mono _ _ _
      | exact repriselaw15_known.mono _
      | exact LeO.none _
      | refine LeO.ite ?_ ?_
      | refine LeO.bind ?_ (fun _ => ?_)
set_option maxHeartbeats 8000000 in
set_option maxRecDepth 100000 in
theorem repriselaw15_HistMany.calls (k : Nat) (a0 : Int) (r : Bool) (w : World) (h : repriselaw15_HistMany.f k a0 = some r) (hsh : Sh0 w := by first | assumption | (with_reducible repeat (first | apply Sh0.drewN | apply Sh0.drew | apply Sh0.alloc | (refine Sh0.set (by assumption) (by assumption) ?_))) <;> first | assumption | exact Sh0.of (by assumption) (by assumption)) :
    Calls Tryd.prog 3 #[.int .u8 a0] w fun e w' => e = .returned (.bool r) ∧ Below w.heap.size w w' := by
  have HB := Aside0.mk (Below.refl w.heap.size w)
  have H : ((repriselaw15_known.f k).bind fun t155 => (if t155 = true then (if 0 ≤ (wrap64 (9998 + (wrap64 (Int.tmod a0 4)))) then (if (wrap64 (9998 + (wrap64 (Int.tmod a0 4))) : Int).toNat ≤ 17592186044416 then (repriselaw15_HistMany.l0 k (List.replicate (wrap64 (9998 + (wrap64 (Int.tmod a0 4))) : Int).toNat (⟨#[]⟩ : ByteArray)) 0) else (none)) else (none)) else (none))) = some r := h
  clear h
  replace H := Option.bind_eq_some_iff.mp H
  obtain ⟨t155, A20, H⟩ := H
  replace H : (if t155 = true then (if 0 ≤ (wrap64 (9998 + (wrap64 (Int.tmod a0 4)))) then (if (wrap64 (9998 + (wrap64 (Int.tmod a0 4))) : Int).toNat ≤ 17592186044416 then (repriselaw15_HistMany.l0 k (List.replicate (wrap64 (9998 + (wrap64 (Int.tmod a0 4))) : Int).toNat (⟨#[]⟩ : ByteArray)) 0) else (none)) else (none)) else (none)) = some r := H
  have A2 := Aside0.mk A20
  clear A20
  by_cases c3 : t155 = true
  · subst c3
    have H1 : (if 0 ≤ (wrap64 (9998 + (wrap64 (Int.tmod a0 4)))) then (if (wrap64 (9998 + (wrap64 (Int.tmod a0 4))) : Int).toNat ≤ 17592186044416 then (repriselaw15_HistMany.l0 k (List.replicate (wrap64 (9998 + (wrap64 (Int.tmod a0 4))) : Int).toNat (⟨#[]⟩ : ByteArray)) 0) else (none)) else (none)) = some r := by rw [if_pos rfl] at H; exact H
    clear H
    have H := H1
    clear H1
    obtain ⟨ji4, hji4⟩ : ∃ j_ : Int, (wrap64 (9998 + (wrap64 (Int.tmod a0 4)))) = j_ := ⟨_, rfl⟩
    replace H : (if 0 ≤ (ji4) then (if (ji4 : Int).toNat ≤ 17592186044416 then (repriselaw15_HistMany.l0 k (List.replicate (ji4 : Int).toNat (⟨#[]⟩ : ByteArray)) 0) else (none)) else (none)) = some r := by first | (rw [hji4] at H; exact H) | (simp only [hji4] at H ⊢; exact H)
    (try rw [hji4] at A2)
    have hji4w : (IntKind.i64.wrap (9998 + (wrap64 (Int.tmod a0 4)))) = ji4 := (i64_w _).trans hji4
    by_cases c5 : 0 ≤ (ji4)
    · rw [if_pos c5] at H
      have c5b0 := eq_true c5
      have c5b1 : decide (0 ≤ (ji4)) = true := decide_eq_true c5
      clear c5
      by_cases c6 : (ji4 : Int).toNat ≤ 17592186044416
      · rw [if_pos c6] at H
        have c6b0 := eq_true c6
        have c6b1 : decide ((ji4 : Int).toNat ≤ 17592186044416) = true := decide_eq_true c6
        clear c6
        obtain ⟨y156, hy156⟩ : ∃ y_ : List ByteArray, y_ = (List.replicate (ji4 : Int).toNat (⟨#[]⟩ : ByteArray)) := ⟨_, rfl⟩
        replace H : (repriselaw15_HistMany.l0 k y156 0) = some r := by first | (rw [hy156]; with_reducible exact H) | (have H2_ := (Option.bind_some _ _).symm.trans H; rw [hy156]; with_reducible exact H2_) | (have H2_ := (Option.bind_some _ _).symm.trans H; with_reducible exact H2_) | with_reducible exact H | (rw [hy156]; exact H) | exact H
        have Ny156 := Aside0.mk hy156
        clear hy156
        have H' := Aside0.mk H
        clear H
        go_enter Tryd.func3, Tryd.ntmps3
        go_wp2_with (first | ((with_reducible refine gate_callee (f := 4) rfl ?_); refine goesL_ (some 7) rfl rfl Tryd.func4 (by kernel_rfl) rfl #[] rfl (by (try simp only [List.map_toArray, List.map_cons, List.map_nil]); first | done | rfl | (simp only [List.length_drop, List.length_take]; rfl)) ?_; (with_reducible refine (repriselaw15_known.calls k  true _ A2.out).mono ?_); rintro e w7 ⟨rfl, hb⟩; refine ⟨_, rfl, ?_⟩; have n0_ := Aside0.mk (below_step (by repeat (first | (with_reducible first | exact HB.out | apply below_alloc | apply pw_below_drewN | apply below_drew1) | exact HB.out)) hb); clear HB; have HB := n0_; clear n0_; (try clear hb); (try clear hb2); (try clear hk); (try clear hi)) | ((with_reducible refine gate_dst (N := 13) rfl ?_); (try (refine gate_guard (by rfl) ?_; dsimp only)); refine Kd.R_make Kd.string _ 9 rfl (N := 13) rfl 23 _ _ rfl ji4 rfl rfl Tryd.underlying23 (.string ⟨#[]⟩) 16 info9 rfl (by decide) (by omega) (⟨#[]⟩ : ByteArray) (ok := fun _ => True) (okp := fun _ => True) rfl (fun _ hk => hk) trivial (of_decide_eq_true (by first | (with_reducible assumption) | assumption)) (Nat.le_trans (Nat.mul_le_mul_right _ (of_decide_eq_true (by first | (with_reducible assumption) | assumption) : ji4.toNat ≤ 17592186044416)) (by omega)) (Below.refl _ _) (Nat.le_refl _) ?_; intro v157 w8 ho9 hb hg_ hnew_; clear hg_ hnew_; (first | rw [← Ny156.out] at ho9 | (simp only [Int.reduceToNat] at ho9; rw [← Ny156.out] at ho9)); have n0_ := Aside0.mk (Kd.R_lower ho9 (below_size (by repeat (first | (with_reducible first | exact HB.out | apply below_alloc | apply pw_below_drewN | apply below_drew1) | exact HB.out)))); have n1_ := Aside0.mk (below_step (by repeat (first | (with_reducible first | exact HB.out | apply below_alloc | apply pw_below_drewN | apply below_drew1) | exact HB.out)) hb); clear HB; have HO158 := n0_; have HB := n1_; clear n0_ n1_; clear hb ho9))
        go_loopg [4] k (fun kq v4 w' => ∃ (x3_1 : List ByteArray) (x4_1 : Int), v4 = .int .i64 x4_1 ∧ Aside0 (repriselaw15_HistMany.l0 kq x3_1 x4_1 = some r) ∧ Aside0 (kq ≤ k) ∧ Aside0 (Kd.R Kd.string 9 w' w.heap.size (fun _ => True) v157 x3_1) ∧ Aside0 (Below w.heap.size w w'))
        case atStart => exact ⟨(y156), (0), (by first | rfl | (simp; done) | (simp [*]; done)), H', ⟨Nat.le_refl _⟩, ⟨by (with_reducible repeat (first | apply Kd.R_alloc | apply Kd.R_drewN | apply Kd.R_drew)); exact HO158.out⟩, ⟨by repeat (first | (with_reducible first | exact HB.out | apply below_alloc | apply pw_below_drewN | apply below_drew1) | exact HB.out)⟩⟩
        case round =>
          clear H'
          try clear p2
          try clear c3
          try clear c4
          try clear c5
          try clear c5b0
          try clear c5b1
          try clear c6
          try clear c6b0
          try clear c6b1
          try clear p6
          obtain ⟨x3_1, x4_1, rfl, HA, HK1, HO_3, HB⟩ := hrel
          cases gk with
          | zero => exact absurd HA.out (by simp [repriselaw15_HistMany.l0])
          | succ k1 =>
            have H := HA.out
            clear HA
            simp only [repriselaw15_HistMany.l0] at H
            by_cases c10 : x4_1 < (x3_1.length : Int)
            · rw [if_pos c10] at H
              have c10b0 : decide (x4_1 < (x3_1.length : Int)) = true := decide_eq_true c10
              clear c10
              obtain ⟨y159, hy159⟩ : ∃ y_ : List ByteArray, y_ = (([(⟨#[97]⟩ : ByteArray), (⟨#[98]⟩ : ByteArray)] : List ByteArray)) := ⟨_, rfl⟩
              replace H : (if 0 ≤ (Int.tmod x4_1 2) then (if (Int.tmod x4_1 2) < (y159.length : Int) then (if 0 ≤ x4_1 then (repriselaw15_HistMany.l0 k1 (x3_1.set (x4_1 : Int).toNat (rdOf ByteArray.empty y159 (Int.tmod x4_1 2))) (wrap64 (x4_1 + 1))) else (none)) else (none)) else (none)) = some r := by first | (rw [hy159]; with_reducible exact H) | (have H2_ := (Option.bind_some _ _).symm.trans H; rw [hy159]; with_reducible exact H2_) | (have H2_ := (Option.bind_some _ _).symm.trans H; with_reducible exact H2_) | with_reducible exact H | (rw [hy159]; exact H) | exact H
              have Ny159 := Aside0.mk hy159
              clear hy159
              obtain ⟨ji11, hji11⟩ : ∃ j_ : Int, (Int.tmod x4_1 2) = j_ := ⟨_, rfl⟩
              replace H : (if 0 ≤ (ji11) then (if (ji11) < (y159.length : Int) then (if 0 ≤ x4_1 then (repriselaw15_HistMany.l0 k1 (x3_1.set (x4_1 : Int).toNat (rdOf ByteArray.empty y159 (ji11))) (wrap64 (x4_1 + 1))) else (none)) else (none)) else (none)) = some r := by first | (rw [hji11] at H; exact H) | (simp only [hji11] at H ⊢; exact H)
              by_cases c12 : 0 ≤ (ji11)
              · rw [if_pos c12] at H
                have c12b0 : decide (0 ≤ (ji11)) = true := decide_eq_true c12
                clear c12
                by_cases c13 : (ji11) < (y159.length : Int)
                · rw [if_pos c13] at H
                  have c13b0 : decide ((ji11) < (y159.length : Int)) = true := decide_eq_true c13
                  clear c13
                  by_cases c14 : 0 ≤ x4_1
                  · rw [if_pos c14] at H
                    have c14b0 : decide (0 ≤ x4_1) = true := decide_eq_true c14
                    clear c14
                    obtain ⟨y163, hy163⟩ : ∃ y_ : List ByteArray, y_ = (x3_1.set (x4_1 : Int).toNat (rdOf ByteArray.empty y159 (ji11))) := ⟨_, rfl⟩
                    replace H : (repriselaw15_HistMany.l0 k1 y163 (wrap64 (x4_1 + 1))) = some r := by first | (rw [hy163]; with_reducible exact H) | (have H2_ := (Option.bind_some _ _).symm.trans H; rw [hy163]; with_reducible exact H2_) | (have H2_ := (Option.bind_some _ _).symm.trans H; with_reducible exact H2_) | with_reducible exact H | (rw [hy163]; exact H) | exact H
                    have Ny163 := Aside0.mk hy163
                    clear hy163
                    have H' := Aside0.mk H
                    clear H
                    obtain ⟨Ao16, co16, eo16⟩ := Kd.R_slice HO_3.out
                    subst eo16
                    go_wp2_with (first | ((with_reducible refine gate_dst (N := 22) rfl ?_); (try (refine gate_guard (by rfl) ?_; dsimp only)); refine Kd.R_lit Kd.string _ 9 ?hg (N := 22) ?hd (xs := ([(⟨#[97]⟩ : ByteArray), (⟨#[98]⟩ : ByteArray)] : List ByteArray)) (inner := [.string (⟨#[97]⟩ : ByteArray), .string (⟨#[98]⟩ : ByteArray)]) (ok := fun _ => True) (okp := fun _ => True) ?hr ?hp (fun _ hk => hk) trivial (Below.refl _ _) (Nat.le_refl _) (by simp) ?_; (case hd => rfl); (case hg => rfl); (case hr => first | (go_simp; done) | (go_simp; rfl)); (case hp => exact (Reps.one (show Kd.M Kd.string _ _ _ (⟨#[97]⟩ : ByteArray) [.string (⟨#[97]⟩ : ByteArray)] from rfl) (Reps.one (show Kd.M Kd.string _ _ _ (⟨#[98]⟩ : ByteArray) [.string (⟨#[98]⟩ : ByteArray)] from rfl) (Reps.none _ _)))); intro v160 w17 ho18 hb hg_ hnew_; clear hg_ hnew_; (first | rw [← Ny159.out] at ho18 | (simp only [Int.reduceToNat] at ho18; rw [← Ny159.out] at ho18)); have n0_ := Aside0.mk (Kd.R_elder' (by (with_reducible repeat (first | apply Kd.R_alloc | apply Kd.R_drewN | apply Kd.R_drew)); exact HO_3.out) (Kd.R_base ho18) hb); have n1_ := Aside0.mk (Kd.R_lower (Kd.R_new' ho18 (Kd.R_lt (by (with_reducible repeat (first | apply Kd.R_alloc | apply Kd.R_drewN | apply Kd.R_drew)); exact HO_3.out))) (below_size (by repeat (first | (with_reducible first | exact HB.out | apply below_alloc | apply pw_below_drewN | apply below_drew1) | exact HB.out)))); have n2_ := Aside0.mk (below_step (by repeat (first | (with_reducible first | exact HB.out | apply below_alloc | apply pw_below_drewN | apply below_drew1) | exact HB.out)) hb); clear HO_3; clear HB; have HO_3 := n0_; have HO161 := n1_; have HB := n2_; clear n0_ n1_ n2_; clear hb ho18; obtain ⟨Ao19, co19, eo19⟩ := Kd.R_slice HO161.out; subst eo19; have p162 : 0 ≤ ((ji11) : Int) := of_decide_eq_true (by first | (with_reducible assumption) | assumption); have q162 : (ji11) < (y159.length : Int) := of_decide_eq_true (by first | (with_reducible assumption) | assumption); obtain ⟨ad162, e162, hx162_0⟩ := Kd.at_string (Kd.R_reads' HO161.out).2.2 (ji11) p162 q162; cases e162; replace p162 := eq_true p162; replace q162 := eq_true q162; have p15 : 0 ≤ (x4_1 : Int) := of_decide_eq_true (by first | (with_reducible assumption) | assumption); have q15 : (x4_1 : Int) < ((x3_1.length : Int) : Int) := of_decide_eq_true (by first | (with_reducible assumption) | assumption); obtain ⟨go15, co15, eo15, gb15, gl15, cl15, HG15⟩ := Kd.R_form HO_3.out (by omega); (first | cases eo15 | (injection eo15 with ea_ en_ ec_; (first | subst ea_ | (injection ea_ with ea_; subst ea_)); subst ec_; clear en_)); have GB15 := Aside0.mk gb15; have GG15 := Aside0.mk HG15; clear gb15 gl15 HG15; obtain ⟨hx15_0, hf15_0⟩ := Kd.R_celln (⟨#[]⟩ : ByteArray) HO_3.out (x4_1 : Int) p15 q15; replace p15 := eq_true p15; replace q15 := eq_true q15; have n_ := Aside0.mk (Kd.R_mono (ok' := (fun k_ => some k_ ≠ (.slice (some ad162) y159.length co19 : Value).ownBlock)) HO_3.out (fun k_ hk => hk.2)); clear HO_3; have HO_3 := n_; clear n_; obtain ⟨hy20_, hz20_⟩ := Kd.R_celln (⟨#[]⟩ : ByteArray) HO_3.out (x4_1 : Int) (of_decide_eq_true (by first | (with_reducible assumption) | assumption)) (of_decide_eq_true (by first | (with_reducible assumption) | assumption)); have HP20 := Kd.R_putg HO_3.out (x4_1 : Int) (rdOf ByteArray.empty y159 (ji11))) | ((with_reducible refine gate_store (t := 9) (p := 27) rfl ?_); refine store_event (t := 9) (p := 27) (v := ?vo_w21) (w1 := (w17.setCell ⟨go15, (x4_1 : Int).toNat, none⟩ (.string (rdOf ByteArray.empty y159 (ji11))))) ?hg ?ho ?hn ?hr ?_; (case ho => rfl); (case hg => rfl); (case hn => rfl); (case hr => first | (go_simp; done) | (go_simp; rfl)); intro w21 hw; have hg : w17.grownBy w21 (some go15) := (by rw [hw]; exact HP20.2); have hp_ : Kd.R Kd.string 9 w21 w.heap.size (fun k_ => some k_ ≠ (.slice (some ad162) y159.length co19 : Value).ownBlock) (.slice (some ⟨go15, 0, none⟩) x3_1.length co16) y163 := (by rw [hw, Ny163.out]; exact HP20.1); clear HP20; have n0_ := Aside0.mk (hp_); have n1_ := Aside0.mk (Kd.R_after (v := (.slice (some ⟨go15, 0, none⟩) x3_1.length co16)) (v1 := (.slice (some ⟨go15, 0, none⟩) x3_1.length co16)) (ok := (fun _ => True)) (by (with_reducible repeat (first | apply Kd.R_alloc | apply Kd.R_drewN | apply Kd.R_drew)); exact HO161.out) hg (.inl rfl)); have n2_ := Aside0.mk ((by rw [hw]; exact below_set (HB.out) GB15.out : Below w.heap.size w w21)); clear HO_3; clear HO161; clear HB; have HO_3 := n0_; have HO161 := n1_; have HB := n2_; clear n0_ n1_ n2_; clear hg hw hp_))
                    go_roundg k1
                    case measure => have := HK1.out; omega
                    case rel => exact ⟨(y163), (wrap64 (x4_1 + 1)), (by first | rfl | (simp; done) | (simp [*]; done)), H', ⟨by have := HK1.out; omega⟩, ⟨by (with_reducible repeat (first | apply Kd.R_alloc | apply Kd.R_drewN | apply Kd.R_drew)); exact Kd.R_mono HO_3.out (fun _ hk => trivial)⟩, ⟨by repeat (first | (with_reducible first | exact HB.out | apply below_alloc | apply pw_below_drewN | apply below_drew1) | exact HB.out)⟩⟩
                  · rw [if_neg c14] at H
                    exact absurd H (by simp)
                · rw [if_neg c13] at H
                  exact absurd H (by simp)
              · rw [if_neg c12] at H
                exact absurd H (by simp)
            · rw [if_neg c10] at H
              have c10b0 : decide (x4_1 < (x3_1.length : Int)) = false := decide_eq_false c10
              clear c10
              by_cases c22 : 0 < (x3_1.length : Int)
              · rw [if_pos c22] at H
                have c22b0 : decide (0 < (x3_1.length : Int)) = true := decide_eq_true c22
                have c22b1 : decide (0 < x3_1.length) = true := decide_eq_true (by omega)
                clear c22
                obtain ⟨y164, hy164⟩ : ∃ y_ : List ByteArray, y_ = (x3_1.set (0 : Int).toNat (⟨#[102, 105, 114, 115, 116]⟩ : ByteArray)) := ⟨_, rfl⟩
                replace H : ((hist_Clip.f y164).bind fun t165 => ((hist_Add.f k1 t165 (⟨#[110, 101, 119]⟩ : ByteArray)).bind fun t168 => (if (t165.length : Int) = (mn (x3_1.length : Int) 10000) then (if (t168.length : Int) = (mn (wrap64 ((t165.length : Int) + 1)) 10000) then (if 0 ≤ (wrap64 ((t168.length : Int) - 1)) then (if (wrap64 ((t168.length : Int) - 1)) < (t168.length : Int) then (if (rdOf ByteArray.empty t168 (wrap64 ((t168.length : Int) - 1))).toList = ([110, 101, 119] : List UInt8) then (if 0 < (t165.length : Int) then (if (((rdOf ByteArray.empty t165 0).toList == ([102, 105, 114, 115, 116] : List UInt8)) == (decide ((x3_1.length : Int) ≤ 10000))) = true then (if 0 < (t168.length : Int) then (some (((rdOf ByteArray.empty t168 0).toList == ([102, 105, 114, 115, 116] : List UInt8)) == (decide ((x3_1.length : Int) < 10000)))) else (none)) else (none)) else (none)) else (none)) else (none)) else (none)) else (none)) else (none)))) = some r := by first | (rw [hy164]; with_reducible exact H) | (have H2_ := (Option.bind_some _ _).symm.trans H; rw [hy164]; with_reducible exact H2_) | (have H2_ := (Option.bind_some _ _).symm.trans H; with_reducible exact H2_) | with_reducible exact H | (rw [hy164]; exact H) | exact H
                have Ny164 := Aside0.mk hy164
                clear hy164
                replace H := Option.bind_eq_some_iff.mp H
                obtain ⟨t165, A240, H⟩ := H
                replace H : ((hist_Add.f k1 t165 (⟨#[110, 101, 119]⟩ : ByteArray)).bind fun t168 => (if (t165.length : Int) = (mn (x3_1.length : Int) 10000) then (if (t168.length : Int) = (mn (wrap64 ((t165.length : Int) + 1)) 10000) then (if 0 ≤ (wrap64 ((t168.length : Int) - 1)) then (if (wrap64 ((t168.length : Int) - 1)) < (t168.length : Int) then (if (rdOf ByteArray.empty t168 (wrap64 ((t168.length : Int) - 1))).toList = ([110, 101, 119] : List UInt8) then (if 0 < (t165.length : Int) then (if (((rdOf ByteArray.empty t165 0).toList == ([102, 105, 114, 115, 116] : List UInt8)) == (decide ((x3_1.length : Int) ≤ 10000))) = true then (if 0 < (t168.length : Int) then (some (((rdOf ByteArray.empty t168 0).toList == ([102, 105, 114, 115, 116] : List UInt8)) == (decide ((x3_1.length : Int) < 10000)))) else (none)) else (none)) else (none)) else (none)) else (none)) else (none)) else (none)) else (none))) = some r := H
                have A24 := Aside0.mk A240
                clear A240
                replace H := Option.bind_eq_some_iff.mp H
                obtain ⟨t168, A250, H⟩ := H
                replace H : (if (t165.length : Int) = (mn (x3_1.length : Int) 10000) then (if (t168.length : Int) = (mn (wrap64 ((t165.length : Int) + 1)) 10000) then (if 0 ≤ (wrap64 ((t168.length : Int) - 1)) then (if (wrap64 ((t168.length : Int) - 1)) < (t168.length : Int) then (if (rdOf ByteArray.empty t168 (wrap64 ((t168.length : Int) - 1))).toList = ([110, 101, 119] : List UInt8) then (if 0 < (t165.length : Int) then (if (((rdOf ByteArray.empty t165 0).toList == ([102, 105, 114, 115, 116] : List UInt8)) == (decide ((x3_1.length : Int) ≤ 10000))) = true then (if 0 < (t168.length : Int) then (some (((rdOf ByteArray.empty t168 0).toList == ([102, 105, 114, 115, 116] : List UInt8)) == (decide ((x3_1.length : Int) < 10000)))) else (none)) else (none)) else (none)) else (none)) else (none)) else (none)) else (none)) else (none)) = some r := H
                have A25 := Aside0.mk A250
                clear A250
                obtain ⟨ji26, hji26⟩ : ∃ j_ : Int, (mn (x3_1.length : Int) 10000) = j_ := ⟨_, rfl⟩
                replace H : (if (t165.length : Int) = (ji26) then (if (t168.length : Int) = (mn (wrap64 ((t165.length : Int) + 1)) 10000) then (if 0 ≤ (wrap64 ((t168.length : Int) - 1)) then (if (wrap64 ((t168.length : Int) - 1)) < (t168.length : Int) then (if (rdOf ByteArray.empty t168 (wrap64 ((t168.length : Int) - 1))).toList = ([110, 101, 119] : List UInt8) then (if 0 < (t165.length : Int) then (if (((rdOf ByteArray.empty t165 0).toList == ([102, 105, 114, 115, 116] : List UInt8)) == (decide ((x3_1.length : Int) ≤ 10000))) = true then (if 0 < (t168.length : Int) then (some (((rdOf ByteArray.empty t168 0).toList == ([102, 105, 114, 115, 116] : List UInt8)) == (decide ((x3_1.length : Int) < 10000)))) else (none)) else (none)) else (none)) else (none)) else (none)) else (none)) else (none)) else (none)) = some r := by first | (rw [hji26] at H; exact H) | (simp only [hji26] at H ⊢; exact H)
                (try rw [hji26] at A24)
                (try rw [hji26] at A25)
                have hji26_ : (if 10000 < (x3_1.length : Int) then 10000 else (x3_1.length : Int)) = ji26 := hji26
                by_cases c27 : (t165.length : Int) = (ji26)
                · rw [if_pos c27] at H
                  have c27b0 : ((t165.length : Int) == (ji26)) = true := beq_iff_eq.mpr c27
                  have c27b1 : ((t165.length : Int) != (ji26)) = false := bne_eq_false_iff_eq.mpr c27
                  clear c27
                  obtain ⟨ji28, hji28⟩ : ∃ j_ : Int, (mn (wrap64 ((t165.length : Int) + 1)) 10000) = j_ := ⟨_, rfl⟩
                  replace H : (if (t168.length : Int) = (ji28) then (if 0 ≤ (wrap64 ((t168.length : Int) - 1)) then (if (wrap64 ((t168.length : Int) - 1)) < (t168.length : Int) then (if (rdOf ByteArray.empty t168 (wrap64 ((t168.length : Int) - 1))).toList = ([110, 101, 119] : List UInt8) then (if 0 < (t165.length : Int) then (if (((rdOf ByteArray.empty t165 0).toList == ([102, 105, 114, 115, 116] : List UInt8)) == (decide ((x3_1.length : Int) ≤ 10000))) = true then (if 0 < (t168.length : Int) then (some (((rdOf ByteArray.empty t168 0).toList == ([102, 105, 114, 115, 116] : List UInt8)) == (decide ((x3_1.length : Int) < 10000)))) else (none)) else (none)) else (none)) else (none)) else (none)) else (none)) else (none)) = some r := by first | (rw [hji28] at H; exact H) | (simp only [hji28] at H ⊢; exact H)
                  (try rw [hji28] at A24)
                  (try rw [hji28] at A25)
                  (try (have hji28h : ji28 ≤ 10000 := by (rw [← hji28]; unfold mn; (repeat' split) <;> omega)))
                  (try (have hji28g : ji28 ≤ 64 := by omega))
                  have hji28_ : (if 10000 < (wrap64 ((t165.length : Int) + 1)) then 10000 else (wrap64 ((t165.length : Int) + 1))) = ji28 := hji28
                  by_cases c29 : (t168.length : Int) = (ji28)
                  · rw [if_pos c29] at H
                    have c29b0 : ((t168.length : Int) == (ji28)) = true := beq_iff_eq.mpr c29
                    have c29b1 : ((t168.length : Int) != (ji28)) = false := bne_eq_false_iff_eq.mpr c29
                    clear c29
                    obtain ⟨ji30, hji30⟩ : ∃ j_ : Int, (wrap64 ((t168.length : Int) - 1)) = j_ := ⟨_, rfl⟩
                    replace H : (if 0 ≤ (ji30) then (if (ji30) < (t168.length : Int) then (if (rdOf ByteArray.empty t168 (ji30)).toList = ([110, 101, 119] : List UInt8) then (if 0 < (t165.length : Int) then (if (((rdOf ByteArray.empty t165 0).toList == ([102, 105, 114, 115, 116] : List UInt8)) == (decide ((x3_1.length : Int) ≤ 10000))) = true then (if 0 < (t168.length : Int) then (some (((rdOf ByteArray.empty t168 0).toList == ([102, 105, 114, 115, 116] : List UInt8)) == (decide ((x3_1.length : Int) < 10000)))) else (none)) else (none)) else (none)) else (none)) else (none)) else (none)) = some r := by first | (rw [hji30] at H; exact H) | (simp only [hji30] at H ⊢; exact H)
                    (try rw [hji30] at A24)
                    (try rw [hji30] at A25)
                    have hji30w : (IntKind.i64.wrap ((t168.length : Int) - 1)) = ji30 := (i64_w _).trans hji30
                    by_cases c31 : 0 ≤ (ji30)
                    · rw [if_pos c31] at H
                      have c31b0 : decide (0 ≤ (ji30)) = true := decide_eq_true c31
                      clear c31
                      by_cases c32 : (ji30) < (t168.length : Int)
                      · rw [if_pos c32] at H
                        have c32b0 : decide ((ji30) < (t168.length : Int)) = true := decide_eq_true c32
                        clear c32
                        by_cases c33 : (rdOf ByteArray.empty t168 (ji30)).toList = ([110, 101, 119] : List UInt8)
                        · rw [if_pos c33] at H
                          have c33b0 : ((rdOf ByteArray.empty t168 (ji30)).toList == ([110, 101, 119] : List UInt8)) = true := beq_iff_eq.mpr c33
                          have c33b1 : ((rdOf ByteArray.empty t168 (ji30)).toList != ([110, 101, 119] : List UInt8)) = false := bne_eq_false_iff_eq.mpr c33
                          clear c33
                          by_cases c34 : 0 < (t165.length : Int)
                          · rw [if_pos c34] at H
                            have c34b0 : decide (0 < (t165.length : Int)) = true := decide_eq_true c34
                            have c34b1 : decide (0 < t165.length) = true := decide_eq_true (by omega)
                            clear c34
                            by_cases c35 : (((rdOf ByteArray.empty t165 0).toList == ([102, 105, 114, 115, 116] : List UInt8)) == (decide ((x3_1.length : Int) ≤ 10000))) = true
                            · rw [if_pos c35] at H
                              have c35b0 : (((rdOf ByteArray.empty t165 0).toList == ([102, 105, 114, 115, 116] : List UInt8)) == (decide ((x3_1.length : Int) ≤ 10000))) = true := c35
                              (try (have c35b1 : decide (((rdOf ByteArray.empty t165 0).toList == ([102, 105, 114, 115, 116] : List UInt8)) = (decide ((x3_1.length : Int) ≤ 10000))) = true := by simpa using c35))
                              (try (have c35b2 : (((rdOf ByteArray.empty t165 0).toList == ([102, 105, 114, 115, 116] : List UInt8)) == (decide ((x3_1.length : Int) ≤ 10000))) = true := by simpa using c35))
                              clear c35
                              by_cases c36 : 0 < (t168.length : Int)
                              · rw [if_pos c36] at H
                                have c36b0 : decide (0 < (t168.length : Int)) = true := decide_eq_true c36
                                have c36b1 : decide (0 < t168.length) = true := decide_eq_true (by omega)
                                clear c36
                                obtain rfl := Option.some.inj H
                                obtain ⟨Ao37, co37, eo37⟩ := Kd.R_slice HO_3.out
                                subst eo37
                                have p23 : 0 ≤ (0 : Int) := (by omega)
                                have q23 : (0 : Int) < ((x3_1.length : Int) : Int) := of_decide_eq_true (by first | (with_reducible assumption) | assumption)
                                have qi23 : (0 < x3_1.length) = True := eq_true (by omega)
                                obtain ⟨go23, co23, eo23, gb23, gl23, cl23, HG23⟩ := Kd.R_form HO_3.out (by omega)
                                (first | cases eo23 | (injection eo23 with ea_ en_ ec_; (first | subst ea_ | (injection ea_ with ea_; subst ea_)); subst ec_; clear en_))
                                have GB23 := Aside0.mk gb23
                                have GG23 := Aside0.mk HG23
                                clear gb23 gl23 HG23
                                obtain ⟨hx23_0, hf23_0⟩ := Kd.R_celln (⟨#[]⟩ : ByteArray) HO_3.out (0 : Int) p23 q23
                                (try rw [show ((0 : Int)).toNat = 0 from rfl] at hx23_0)
                                (try simp only [Nat.reduceMul, Nat.zero_mul, Nat.zero_add, Nat.reduceAdd] at hx23_0)
                                (try rw [show ((0 : Int)).toNat = 0 from rfl] at hf23_0)
                                (try simp only [Nat.reduceMul, Nat.zero_mul, Nat.zero_add, Nat.reduceAdd] at hf23_0)
                                replace p23 := eq_true p23
                                replace q23 := eq_true q23
                                have HP38 := Kd.R_putg HO_3.out (0 : Int) (⟨#[102, 105, 114, 115, 116]⟩ : ByteArray)
                                go_wp2_with (first | ((with_reducible refine gate_store (t := 9) (p := 29) rfl ?_); refine store_event (t := 9) (p := 29) (v := ?vo_w39) (w1 := (wr.setCell ⟨go23, (0 : Int).toNat, none⟩ (.string (⟨#[102, 105, 114, 115, 116]⟩ : ByteArray)))) ?hg ?ho ?hn ?hr ?_; (case ho => rfl); (case hg => rfl); (case hn => rfl); (case hr => first | (go_simp; done) | (go_simp; rfl)); intro w39 hw; have hg : wr.grownBy w39 (some go23) := (by rw [hw]; exact HP38.2); have hp_ : Kd.R Kd.string 9 w39 w.heap.size (fun _ => True) (.slice (some ⟨go23, 0, none⟩) x3_1.length co37) y164 := (by rw [hw, Ny164.out]; exact HP38.1); clear HP38; have n0_ := Aside0.mk (hp_); have n1_ := Aside0.mk ((by rw [hw]; exact below_set (HB.out) GB23.out : Below w.heap.size w w39)); clear HO_3; clear HB; have HO_3 := n0_; have HB := n1_; clear n0_ n1_; clear hg hw hp_) | ((with_reducible refine gate_callee (f := 5) rfl ?_); refine goesL_ (some 31) rfl rfl Tryd.func5 (by kernel_rfl) rfl #[.slice (some ⟨go23, 0, none⟩) y164.length co37] rfl (by (try simp only [List.map_toArray, List.map_cons, List.map_nil]); first | done | (rw [show y164.length = x3_1.length from (Kd.R_reads' HO_3.out).1.symm] <;> rfl) | rfl | (simp only [List.length_drop, List.length_take]; rfl)) ?_; (with_reducible refine (hist_Clip.calls _ _ y164 t165 _ ?side1 ?side2 A24.out).mono ?_); (case side1 => repeat (first | exact (Kd.R_reads' HO_3.out).2.2 | (with_reducible refine Kd.C_alloc ?_ _) | (with_reducible refine Kd.C_drewN ?_ _) | (with_reducible refine Kd.C_drew ?_))); (case side2 => rw [show y164.length = x3_1.length from (Kd.R_reads' HO_3.out).1.symm]; exact (Kd.R_reads' HO_3.out).2.1); rintro e w40 ⟨v166, rfl, ho0, hb⟩; refine ⟨_, rfl, ?_⟩; have n0_ := Aside0.mk (Kd.R_elder' (by (with_reducible repeat (first | apply Kd.R_alloc | apply Kd.R_drewN | apply Kd.R_drew)); exact HO_3.out) (Kd.R_base ho0) hb); have n1_ := Aside0.mk (Kd.R_lower (Kd.R_new' ho0 (Kd.R_lt (by (with_reducible repeat (first | apply Kd.R_alloc | apply Kd.R_drewN | apply Kd.R_drew)); exact HO_3.out))) (below_size (by repeat (first | (with_reducible first | exact HB.out | apply below_alloc | apply pw_below_drewN | apply below_drew1) | exact HB.out)))); have n2_ := Aside0.mk (below_step (by repeat (first | (with_reducible first | exact HB.out | apply below_alloc | apply pw_below_drewN | apply below_drew1) | exact HB.out)) hb); clear HO_3; clear HB; have HO_3 := n0_; have HO167 := n1_; have HB := n2_; clear n0_ n1_ n2_; (try clear hb); (try clear hb2); (try clear hk); (try clear hi); (try clear ho0); obtain ⟨Ao41, co41, eo41⟩ := Kd.R_slice HO167.out; subst eo41) | ((with_reducible refine gate_callee (f := 6) rfl ?_); refine goesL_ (some 33) rfl rfl Tryd.func6 (by kernel_rfl) rfl #[.slice Ao41 t165.length co41, .string (⟨#[110, 101, 119]⟩ : ByteArray)] rfl (by (try simp only [List.map_toArray, List.map_cons, List.map_nil]); first | done | rfl | (simp only [List.length_drop, List.length_take]; rfl)) ?_; (with_reducible refine (hist_Add.calls k1 _ _ t165 (⟨#[110, 101, 119]⟩ : ByteArray) t168 _ ?side1 ?side2 A25.out).mono ?_); (case side1 => repeat (first | exact (Kd.R_reads' HO167.out).2.2 | (with_reducible refine Kd.C_alloc ?_ _) | (with_reducible refine Kd.C_drewN ?_ _) | (with_reducible refine Kd.C_drew ?_))); (case side2 => exact (Kd.R_reads' HO167.out).2.1); rintro e w42 ⟨v169, rfl, ho0, hb⟩; refine ⟨_, rfl, ?_⟩; have n0_ := Aside0.mk (Kd.R_elder' (by (with_reducible repeat (first | apply Kd.R_alloc | apply Kd.R_drewN | apply Kd.R_drew)); exact HO_3.out) (Kd.R_base ho0) hb); have n1_ := Aside0.mk (Kd.R_elder' (by (with_reducible repeat (first | apply Kd.R_alloc | apply Kd.R_drewN | apply Kd.R_drew)); exact HO167.out) (Kd.R_base ho0) hb); have n2_ := Aside0.mk (Kd.R_lower (Kd.R_new' (Kd.R_new' ho0 (Kd.R_lt (by (with_reducible repeat (first | apply Kd.R_alloc | apply Kd.R_drewN | apply Kd.R_drew)); exact HO_3.out))) (Kd.R_lt (by (with_reducible repeat (first | apply Kd.R_alloc | apply Kd.R_drewN | apply Kd.R_drew)); exact HO167.out))) (below_size (by repeat (first | (with_reducible first | exact HB.out | apply below_alloc | apply pw_below_drewN | apply below_drew1) | exact HB.out)))); have n3_ := Aside0.mk (below_step (by repeat (first | (with_reducible first | exact HB.out | apply below_alloc | apply pw_below_drewN | apply below_drew1) | exact HB.out)) hb); clear HO_3; clear HO167; clear HB; have HO_3 := n0_; have HO167 := n1_; have HO170 := n2_; have HB := n3_; clear n0_ n1_ n2_ n3_; (try clear hb); (try clear hb2); (try clear hk); (try clear hi); (try clear ho0); obtain ⟨Ao43, co43, eo43⟩ := Kd.R_slice HO170.out; subst eo43; have p171 : 0 ≤ ((ji30) : Int) := of_decide_eq_true (by first | (with_reducible assumption) | assumption); have q171 : (ji30) < (t168.length : Int) := of_decide_eq_true (by first | (with_reducible assumption) | assumption); obtain ⟨ad171, e171, hx171_0⟩ := Kd.at_string (Kd.R_reads' HO170.out).2.2 (ji30) p171 q171; cases e171; replace p171 := eq_true p171; replace q171 := eq_true q171; have p172 : 0 ≤ (0 : Int) := (by omega); have q172 : 0 < (t165.length : Int) := of_decide_eq_true (by first | (with_reducible assumption) | assumption); obtain ⟨ad172, e172, hx172_0⟩ := Kd.at_string (Kd.R_reads' HO167.out).2.2 0 p172 q172; cases e172; have qi172 : (0 < t165.length) = True := eq_true (by omega); (try rw [show ((0 : Int)).toNat = 0 from rfl] at hx172_0); (try rw [Addr.add_zero'] at hx172_0); replace p172 := eq_true p172; replace q172 := eq_true q172; have p173 : 0 ≤ (0 : Int) := (by omega); have q173 : 0 < (t168.length : Int) := of_decide_eq_true (by first | (with_reducible assumption) | assumption); obtain ⟨ad173, e173, hx173_0⟩ := Kd.at_string (Kd.R_reads' HO170.out).2.2 0 p173 q173; obtain rfl : ad171 = ad173 := (by injection e173); have qi173 : (0 < t168.length) = True := eq_true (by omega); (try rw [show ((0 : Int)).toNat = 0 from rfl] at hx173_0); (try rw [Addr.add_zero'] at hx173_0); replace p173 := eq_true p173; replace q173 := eq_true q173))
                                go_ret
                                exact ⟨by first | rfl | (simp [errW_none, errW_some] <;> rfl) | (simp only [← hji4, ← hji26, ← hji28, ← hji30]; first | rfl | (simp [errW_none, errW_some] <;> rfl)) | (simp [*, errW_none, errW_some] <;> rfl), by repeat (first | (with_reducible first | exact HB.out | apply below_alloc | apply pw_below_drewN | apply below_drew1) | exact HB.out)⟩
                              · rw [if_neg c36] at H
                                exact absurd H (by simp)
                            · rw [if_neg c35] at H
                              exact absurd H (by simp)
                          · rw [if_neg c34] at H
                            exact absurd H (by simp)
                        · rw [if_neg c33] at H
                          exact absurd H (by simp)
                      · rw [if_neg c32] at H
                        exact absurd H (by simp)
                    · rw [if_neg c31] at H
                      exact absurd H (by simp)
                  · rw [if_neg c29] at H
                    exact absurd H (by simp)
                · rw [if_neg c27] at H
                  exact absurd H (by simp)
              · rw [if_neg c22] at H
                exact absurd H (by simp)
      · rw [if_neg c6] at H
        exact absurd H (by simp)
    · rw [if_neg c5] at H
      exact absurd H (by simp)
  · replace c3 := Bool.eq_false_iff.mpr c3
    subst c3
    have H1 : (none) = some r := by rw [if_neg (show ¬ (false = true) by decide)] at H; exact H
    clear H
    have H := H1
    clear H1
    exact absurd H (by simp)

/-- THE ONE PURE STATEMENT of repriselaw15_HistMany: yours. -/
def repriselaw15_HistMany.Pure : Prop := ∀ (a0 : Int), (Lit.int .u8 a0).wf = true → ∃ k, repriselaw15_HistMany.f k a0 = some true
theorem repriselaw15_HistMany.walk (P : repriselaw15_HistMany.Pure) (a0 : Int) (w : World) (w0 : (Lit.int .u8 a0).wf = true) (hsh : Sh0 w) :
    Calls Tryd.prog 3 #[.int .u8 a0] w fun e w' => e = .returned (.bool true) ∧ Below w.heap.size w w' := by
  obtain ⟨k, h⟩ := P a0 w0
  refine (repriselaw15_HistMany.calls k a0 true w h).mono ?_
  rintro e w' ⟨rfl, hd⟩
  exact ⟨rfl, hd⟩

end Go.Proofs.YtmffdnedakfigaaDoor.QHistMany
