/- Lean functions for the Go functions that the law reaches, and proofs that each call comes to just what its Lean function tells; no condition. (Written by a program of this session.) -/
import Derived.Test.YtghfclocelhpjaaQLebTellsx0
import Derived.Test.YtghfclocelhpjaaQLebTellsx1
import Derived.Test.YtghfclocelhpjaaQLebTellsx2
namespace Go.Proofs.Ytghfclocelhpjaa.QLebTells
open Go.RowKit Go.Proofs.YtghfclocelhpjaaW.PrintWords Go.Proofs.YtghfclocelhpjaaW.PrintLast Go.Proofs.YtghfclocelhpjaaW.PrintMore
attribute [local go_sem] max2_int min2_int max_two min_two max_three min_three max_four min_four   -- for this text's walks alone
set_option linter.unusedVariables false
set_option linter.unusedSimpArgs false

/-! ### repriselaw1_LebTells: function 3 -/
abbrev I : Bool := true
abbrev O : Bool := false
theorem q1 {α : Type} {l : List α} {i : Nat} {a : α} : l.toArray.setIfInBounds i a = (l.set i a).toArray := List.setIfInBounds_toArray l i a
theorem q2 {α : Type} {x : α} {xs : List α} {a : α} : (x :: xs).set 0 a = a :: xs := List.set_cons_zero
theorem q3 {α : Type} {x : α} {xs : List α} {n : Nat} {a : α} : (x :: xs).set (n + 1) a = x :: xs.set n a := List.set_cons_succ

mutual
def repriselaw1_LebTells.j0 : Nat → Int → List Int → Int → List Int → Bool → Option (Bool)
 | 0, _, _, _, _, _ => none
 | k + 1, x1, x2, x3, x10, x79 => if x79 = true then (none) else ((some (([128, 128, 128, 128, 128, 128, 128, 128, 128, Int.tmod x1 4] : List Int) : List Int)).bind fun y196 => (if (wrap64 ((x10.length : Int) + 1)) = 0 then (none) else (if 0 ≤ (Int.tmod (wrap64 (x1)) (wrap64 ((x10.length : Int) + 1))) then (if (Int.tmod (wrap64 (x1)) (wrap64 ((x10.length : Int) + 1))) ≤ (x10.length : Int) then (if ([] : List Int).length + x10.length < 140737488355328 then ((some (([] : List Int) ++ x10 : List Int)).bind fun y204 => (if y204.length + x2.length < 140737488355328 then (if 0 ≤ (Int.tmod (wrap64 (x1)) 9) then (if (Int.tmod (wrap64 (x1)) 9) ≤ (y196.length : Int) then ((some (y196.take ((Int.tmod (wrap64 (x1)) 9) : Int).toNat : List Int)).bind fun y210 => (if ([] : List Int).length + y210.length < 140737488355328 then ((some (([] : List Int) ++ y210 : List Int)).bind fun y215 => ((some (([0] : List Int) : List Int)).bind fun y218 => (if y215.length + y218.length < 140737488355328 then ((some (([x2, x10, (x10.take ((Int.tmod (wrap64 (x1)) (wrap64 ((x10.length : Int) + 1))) : Int).toNat), (y204 ++ x2), y196, (y215 ++ y218)] : List (List Int)) : List (List Int))).bind fun y224 => (repriselaw1_LebTells.l0 k x1 x2 x3 y224 (y224.length : Int) 0)) else (none)))) else (none))) else (none)) else (none)) else (none))) else (none)) else (none)) else (none))))
def repriselaw1_LebTells.l0 : Nat → Int → List Int → Int → List (List Int) → Int → Int → Option (Bool)
 | 0, _, _, _, _, _, _ => none
 | k + 1, x1, x2, x3, x106, x107, x108 => if x108 < x107 then (if 0 ≤ x108 then (if x108 < (x106.length : Int) then ((leb_Read.f k (rd_L2 x106 x108)).bind fun bt234 => ((repriseref1_Read.f k (rd_L2 x106 x108)).bind fun bt237 => ((leb_ReadBytes.f k (rd_L2 x106 x108) x3).bind fun bt240 => ((repriseref1_ReadBytes.f k (rd_L2 x106 x108) x3).bind fun bt245 => (if bt234.1 = bt237.1 then (if bt234.2.1 = bt237.2.1 then (if bt234.2.2 = bt237.2.2 then (if (strOfNums bt240.1).toList = (strOfNums bt245.1).toList then (if bt240.2.1 = bt245.2.1 then (if bt240.2.2 = bt245.2.2 then ((leb_ReadBytes.f k (rd_L2 x106 x108) (wrap64 (x1))).bind fun bt250 => ((repriseref1_ReadBytes.f k (rd_L2 x106 x108) (wrap64 (x1))).bind fun bt255 => (if (strOfNums bt250.1).toList = (strOfNums bt255.1).toList then (if bt250.2.1 = bt255.2.1 then (if bt250.2.2 = bt255.2.2 then (repriselaw1_LebTells.l0 k x1 x2 x3 x106 x107 (wrap64 (x108 + 1))) else (none)) else (none)) else (none)))) else (none)) else (none)) else (none)) else (none)) else (none)) else (none)))))) else (none)) else (none)) else ((leb_PutBytes.f k x2).bind fun t227 => ((repriseref1_PutBytes.f k x2).bind fun t230 => (some ((strOfNums t227).toList == (strOfNums t230).toList))))
end
def repriselaw1_LebTells.f (k : Nat) (a0 : Int) (a1 : Int) (l2 : List Int) (a3 : Int) : Option (Bool) := (repriselaw1_known.f k).bind fun t180 => (if t180 = true then (if (l2.length : Int) > 40 then (some true) else ((repriselaw1_edge.f a0 a1).bind fun t181 => ((repriseref1_Put.f k t181).bind fun t182 => ((leb_Put.f k t181).bind fun t185 => (if (strOfNums t185).toList = (strOfNums t182).toList then ((leb_Zag.f t181).bind fun t188 => ((repriseref1_Zag.f t181).bind fun t189 => (if t188 = t189 then ((leb_Zig.f (wrap64 (t181))).bind fun t190 => ((repriseref1_Zig.f (wrap64 (t181))).bind fun t191 => (if t190 = t191 then ((leb_Zig.f (wrap64 (t181))).bind fun t192 => ((leb_Zag.f t192).bind fun t193 => (if t193 = (wrap64 (t181)) then ((leb_Zag.f t181).bind fun t194 => ((leb_Zig.f t194).bind fun t195 => (repriselaw1_LebTells.j0 k a1 l2 a3 t182 (t195 != t181)))) else (repriselaw1_LebTells.j0 k a1 l2 a3 t182 true)))) else (repriselaw1_LebTells.j0 k a1 l2 a3 t182 true)))) else (repriselaw1_LebTells.j0 k a1 l2 a3 t182 true)))) else (repriselaw1_LebTells.j0 k a1 l2 a3 t182 true)))))) else (none))
theorem repriselaw1_LebTells.mono_l : ∀ k, (∀ y0 y1 y2 y3 y4, LeO (repriselaw1_LebTells.j0 k y0 y1 y2 y3 y4) (repriselaw1_LebTells.j0 (k + 1) y0 y1 y2 y3 y4)) ∧ (∀ y0 y1 y2 y3 y4 y5, LeO (repriselaw1_LebTells.l0 k y0 y1 y2 y3 y4 y5) (repriselaw1_LebTells.l0 (k + 1) y0 y1 y2 y3 y4 y5))
 | 0 => ⟨fun _ _ _ _ _ r h => by simp [repriselaw1_LebTells.j0] at h, fun _ _ _ _ _ _ r h => by simp [repriselaw1_LebTells.l0] at h⟩
 | k + 1 => by
  obtain ⟨ih0, ih1⟩ := repriselaw1_LebTells.mono_l k
  refine ⟨?_, ?_⟩
  ·intro y0 y1 y2 y3 y4
   unfold repriselaw1_LebTells.j0
   repeat' first
   | (with_reducible exact ih0 _ _ _ _ _)
   | (with_reducible exact ih1 _ _ _ _ _ _)
   | (with_reducible exact leb_Put.mono _ _)
   | (with_reducible exact leb_PutBytes.mono _ _)
   | (with_reducible exact leb_Read.mono _ _)
   | (with_reducible exact leb_ReadBytes.mono _ _ _)
   | (with_reducible exact repriselaw1_known.mono _)
   | (with_reducible exact repriseref1_Put.mono _ _)
   | (with_reducible exact repriseref1_PutBytes.mono _ _)
   | (with_reducible exact repriseref1_Read.mono _ _)
   | (with_reducible exact repriseref1_ReadBytes.mono _ _ _)
   | (with_reducible exact LeO.refl _)
   | (with_reducible exact LeO.none _)
   | (with_reducible refine LeO.ite ?_ ?_)
   | (with_reducible refine LeO.bind ?_ (fun _ => ?_))
   | exact ih0 _ _ _ _ _
   | exact ih1 _ _ _ _ _ _
   | exact leb_Put.mono _ _
   | exact leb_PutBytes.mono _ _
   | exact leb_Read.mono _ _
   | exact leb_ReadBytes.mono _ _ _
   | exact repriselaw1_known.mono _
   | exact repriseref1_Put.mono _ _
   | exact repriseref1_PutBytes.mono _ _
   | exact repriseref1_Read.mono _ _
   | exact repriseref1_ReadBytes.mono _ _ _
   | exact LeO.none _
   | refine LeO.ite ?_ ?_
   | refine LeO.bind ?_ (fun _ => ?_)
  ·intro y0 y1 y2 y3 y4 y5
   unfold repriselaw1_LebTells.l0
   repeat' first
   | (with_reducible exact ih0 _ _ _ _ _)
   | (with_reducible exact ih1 _ _ _ _ _ _)
   | (with_reducible exact leb_Put.mono _ _)
   | (with_reducible exact leb_PutBytes.mono _ _)
   | (with_reducible exact leb_Read.mono _ _)
   | (with_reducible exact leb_ReadBytes.mono _ _ _)
   | (with_reducible exact repriselaw1_known.mono _)
   | (with_reducible exact repriseref1_Put.mono _ _)
   | (with_reducible exact repriseref1_PutBytes.mono _ _)
   | (with_reducible exact repriseref1_Read.mono _ _)
   | (with_reducible exact repriseref1_ReadBytes.mono _ _ _)
   | (with_reducible exact LeO.refl _)
   | (with_reducible exact LeO.none _)
   | (with_reducible refine LeO.ite ?_ ?_)
   | (with_reducible refine LeO.bind ?_ (fun _ => ?_))
   | exact ih0 _ _ _ _ _
   | exact ih1 _ _ _ _ _ _
   | exact leb_Put.mono _ _
   | exact leb_PutBytes.mono _ _
   | exact leb_Read.mono _ _
   | exact leb_ReadBytes.mono _ _ _
   | exact repriselaw1_known.mono _
   | exact repriseref1_Put.mono _ _
   | exact repriseref1_PutBytes.mono _ _
   | exact repriseref1_Read.mono _ _
   | exact repriseref1_ReadBytes.mono _ _ _
   | exact LeO.none _
   | refine LeO.ite ?_ ?_
   | refine LeO.bind ?_ (fun _ => ?_)
theorem repriselaw1_LebTells.mono : ∀ a0 a1 a2 a3 k, LeO (repriselaw1_LebTells.f k a0 a1 a2 a3) (repriselaw1_LebTells.f (k + 1) a0 a1 a2 a3) := by
 intro a0 a1 a2 a3 k
 obtain ⟨ih0, ih1⟩ := repriselaw1_LebTells.mono_l k
 unfold repriselaw1_LebTells.f
 repeat' first
   | (with_reducible exact ih0 _ _ _ _ _)
   | (with_reducible exact ih1 _ _ _ _ _ _)
   | (with_reducible exact leb_Put.mono _ _)
   | (with_reducible exact leb_PutBytes.mono _ _)
   | (with_reducible exact leb_Read.mono _ _)
   | (with_reducible exact leb_ReadBytes.mono _ _ _)
   | (with_reducible exact repriselaw1_known.mono _)
   | (with_reducible exact repriseref1_Put.mono _ _)
   | (with_reducible exact repriseref1_PutBytes.mono _ _)
   | (with_reducible exact repriseref1_Read.mono _ _)
   | (with_reducible exact repriseref1_ReadBytes.mono _ _ _)
   | (with_reducible exact LeO.refl _)
   | (with_reducible exact LeO.none _)
   | (with_reducible refine LeO.ite ?_ ?_)
   | (with_reducible refine LeO.bind ?_ (fun _ => ?_))
   | exact ih0 _ _ _ _ _
   | exact ih1 _ _ _ _ _ _
   | exact leb_Put.mono _ _
   | exact leb_PutBytes.mono _ _
   | exact leb_Read.mono _ _
   | exact leb_ReadBytes.mono _ _ _
   | exact repriselaw1_known.mono _
   | exact repriseref1_Put.mono _ _
   | exact repriseref1_PutBytes.mono _ _
   | exact repriseref1_Read.mono _ _
   | exact repriseref1_ReadBytes.mono _ _ _
   | exact LeO.none _
   | refine LeO.ite ?_ ?_
   | refine LeO.bind ?_ (fun _ => ?_)
end Go.Proofs.Ytghfclocelhpjaa.QLebTells
