/- Lean functions for the Go functions that the law reaches, and proofs that each call comes to just what its Lean function tells; no condition. (Written by a program of this session.) -/
import Derived.Test.YtmaefdeigienjaaQEventTellsx0
import Derived.Test.YtmaefdeigienjaaQEventTellsx3
import Derived.Test.YtmaefdeigienjaaQEventTellsx5
import Derived.Test.YtmaefdeigienjaaQEventTellsx6
import Derived.Test.YtmaefdeigienjaaQEventTellsx8
import Derived.Test.YtmaefdeigienjaaQEventTellsx9
import Derived.Test.YtmaefdeigienjaaQEventTellsx10
import Derived.Test.YtmaefdeigienjaaQEventTellsx11
namespace Go.Proofs.Ytmaefdeigienjaa.QEventTells
open Go.RowKit Go.Proofs.YtmaefdeigienjaaW.PrintWords Go.Proofs.YtmaefdeigienjaaW.PrintLast Go.Proofs.YtmaefdeigienjaaW.PrintMore
attribute [local go_sem] max2_int min2_int max_two min_two max_three min_three max_four min_four   -- for this text's walks alone
set_option linter.unusedVariables false
set_option linter.unusedSimpArgs false
/-! ### repriselaw23_EventTells: function 5 -/
abbrev I : Bool:=true
abbrev O : Bool:=false
theorem q1 {α : Type} {l : List α} {i : Nat} {a : α} : l.toArray.setIfInBounds i a = (l.set i a).toArray:=List.setIfInBounds_toArray l i a
theorem q2 {α : Type} {x : α} {xs : List α} {a : α} : (x :: xs).set 0 a = a :: xs:=List.set_cons_zero
theorem q3 {α : Type} {x : α} {xs : List α} {n : Nat} {a : α} : (x :: xs).set (n + 1) a = x :: xs.set n a:=List.set_cons_succ
mutual
def repriselaw23_EventTells.j0 : Nat → List (S30) → List Int → List Int → Int → Int → Int → Int → Bool → Int → Int → List Int → Int → Int → Option (Bool)
|0,_,_,_,_,_,_,_,_,_,_,_,_,_=>none
|k + 1,x1,x2,x3,x4,x5,x6,x7,x57,x402000,x402001,x402002,x402003,x402004=>if x57 = true then (some true) else (repriselaw23_EventTells.l0 k x1 x2 x3 x4 x5 x6 x7 0 x402000 x402001 x402002 x402003 x402004)
def repriselaw23_EventTells.l0 : Nat → List (S30) → List Int → List Int → Int → Int → Int → Int → Int → Int → Int → List Int → Int → Int → Option (Bool)
|0,_,_,_,_,_,_,_,_,_,_,_,_,_=>none
|k + 1,x1,x2,x3,x4,x5,x6,x7,x17,x402000,x402001,x402002,x402003,x402004=>if x17 < (x1.length : Int) then (if 0 ≤ x17 then (if (((rd_T30 x1 x17).f2).length : Int) > 40 then (some true) else (repriselaw23_EventTells.l0 k x1 x2 x3 x4 x5 x6 x7 (wrap64 (x17 + 1)) x402000 x402001 x402002 x402003 x402004)) else (none)) else ((repriseseat_Events.f k x2 x3).bind fun t404=>(if ([] : List (S30)).length + t404.length < 2513169434916 then ((some (([] : List (S30)) ++ t404 : List (S30))).bind fun y407=>(if (y407.length : Int) > 0 then (if (y407.length : Int) = 0 then (none) else (if 0 ≤ (Int.tmod (wrap64 (x7)) (y407.length : Int)) then (if (Int.tmod (wrap64 (x7)) (y407.length : Int)) < (y407.length : Int) then ((repriselaw23_bent.f ((rd_T30 y407 (Int.tmod (wrap64 (x7)) (y407.length : Int))).f0) ((rd_T30 y407 (Int.tmod (wrap64 (x7)) (y407.length : Int))).f1) ((rd_T30 y407 (Int.tmod (wrap64 (x7)) (y407.length : Int))).f2) ((rd_T30 y407 (Int.tmod (wrap64 (x7)) (y407.length : Int))).f3) ((rd_T30 y407 (Int.tmod (wrap64 (x7)) (y407.length : Int))).f4) x6 x5).bind fun bt411=>(repriselaw23_EventTells.j2 k x1 x4 x5 x6 x7 t404 (y407.set ((Int.tmod (wrap64 (x7)) (y407.length : Int)) : Int).toNat (⟨bt411.1,bt411.2.1,bt411.2.2.1,bt411.2.2.2.1,bt411.2.2.2.2⟩ : S30)) x402000 x402001 x402002 x402003 x402004)) else (none)) else (none))) else (repriselaw23_EventTells.j2 k x1 x4 x5 x6 x7 t404 y407 x402000 x402001 x402002 x402003 x402004))) else (none)))
def repriselaw23_EventTells.j2 : Nat → List (S30) → Int → Int → Int → Int → List (S30) → List (S30) → Int → Int → List Int → Int → Int → Option (Bool)
|0,_,_,_,_,_,_,_,_,_,_,_,_=>none
|k + 1,x1,x4,x5,x6,x7,x18,x19,x402000,x402001,x402002,x402003,x402004=>(some (([x1,x18,x19] : List (List (S30))) : List (List (S30)))).bind fun y419=>(repriselaw23_EventTells.l1 k x4 x5 x6 x7 x19 y419 (y419.length : Int) 0 x402000 x402001 x402002 x402003 x402004)
def repriselaw23_EventTells.l1 : Nat → Int → Int → Int → Int → List (S30) → List (List (S30)) → Int → Int → Int → Int → List Int → Int → Int → Option (Bool)
|0,_,_,_,_,_,_,_,_,_,_,_,_,_=>none
|k + 1,x4,x5,x6,x7,x19,x100,x101,x102,x402000,x402001,x402002,x402003,x402004=>if x102 < x101 then (if 0 ≤ x102 then (if x102 < (x100.length : Int) then ((event_Check.f k (rd_L7 x100 x102)).bind fun bt423=>((repriseref23_Check.f k (rd_L7 x100 x102)).bind fun bt425=>(if bt423.1 = bt425.1 then (if bt423.2 = bt425.2 then ((event_Until.f k (rd_L7 x100 x102) x5).bind fun t427=>((repriseref23_Until.f k (rd_L7 x100 x102) x5).bind fun t428=>(if t427 = t428 then ((event_Until.f k (rd_L7 x100 x102) (wrap64 (Int.tmod x7 20))).bind fun t429=>((repriseref23_Until.f k (rd_L7 x100 x102) (wrap64 (Int.tmod x7 20))).bind fun t430=>(if t429 = t430 then (repriselaw23_EventTells.l1 k x4 x5 x6 x7 x19 x100 x101 (wrap64 (x102 + 1)) x402000 x402001 x402002 x402003 x402004) else (none)))) else (none)))) else (none)) else (none)))) else (none)) else (none)) else ((repriselaw23_bent.f x402000 x402001 x402002 x402003 x402004 x6 x5).bind fun bt431=>((some (([(⟨x402000,x402001,x402002,x402003,x402004⟩ : S30),(⟨bt431.1,bt431.2.1,bt431.2.2.1,bt431.2.2.2.1,bt431.2.2.2.2⟩ : S30)] : List (S30)) : List (S30))).bind fun y438=>(if y438.length + x19.length < 2513169434916 then ((some (y438 ++ x19 : List (S30))).bind fun y441=>(repriselaw23_EventTells.l2 k x4 x7 y441 (y441.length : Int) 0 x402000 x402001 x402002 x402003 x402004)) else (none))))
def repriselaw23_EventTells.l2 : Nat → Int → Int → List (S30) → Int → Int → Int → Int → List Int → Int → Int → Option (Bool)
|0,_,_,_,_,_,_,_,_,_,_=>none
|k + 1,x4,x7,x154,x155,x156,x402000,x402001,x402002,x402003,x402004=>if x156 < x155 then (if 0 ≤ x156 then (if x156 < (x154.length : Int) then ((some (([x4,wrap64 (Int.tmod x7 8),0] : List Int) : List Int)).bind fun y446=>(repriselaw23_EventTells.l3 k x4 x7 x154 x155 x156 y446 (y446.length : Int) 0 x402000 x402001 x402002 x402003 x402004 ((rd_T30 x154 x156).f0) ((rd_T30 x154 x156).f1) ((rd_T30 x154 x156).f2) ((rd_T30 x154 x156).f3) ((rd_T30 x154 x156).f4))) else (none)) else (none)) else (some true)
def repriselaw23_EventTells.l3 : Nat → Int → Int → List (S30) → Int → Int → List Int → Int → Int → Int → Int → List Int → Int → Int → Int → Int → List Int → Int → Int → Option (Bool)
|0,_,_,_,_,_,_,_,_,_,_,_,_,_,_,_,_,_,_=>none
|k + 1,x4,x7,x154,x155,x156,x164,x165,x166,x402000,x402001,x402002,x402003,x402004,x446000,x446001,x446002,x446003,x446004=>if x166 < x165 then (if 0 ≤ x166 then (if x166 < (x164.length : Int) then ((event_Put.f k (rd x164 x166) x446000 x446001 x446002 x446003 x446004).bind fun bt450=>((repriseref23_Put.f k (rd x164 x166) x446000 x446001 x446002 x446003 x446004).bind fun bt454=>(if (strOfNums bt450.1).toList = (strOfNums bt454.1).toList then (if bt450.2 = bt454.2 then ((event_Right.f k x446000 x446001 x446002 x446003 x446004).bind fun t458=>((repriseref23_Fault.f k 0 x446000 x446001 x446002 x446003 x446004).bind fun t459=>(if (t458 != (t459 == 0)) = true then (repriselaw23_EventTells.j6 k x4 x7 (rd x164 x166) bt454.1 bt454.2 x154 x155 x156 x164 x165 x166 true x402000 x402001 x402002 x402003 x402004 x446000 x446001 x446002 x446003 x446004) else ((event_Same.f x446000 x446001 x446002 x446003 x446004 x402000 x402001 x402002 x402003 x402004).bind fun t460=>((repriseref23_Same.f x446000 x446001 x446002 x446003 x446004 x402000 x402001 x402002 x402003 x402004).bind fun t461=>(repriselaw23_EventTells.j6 k x4 x7 (rd x164 x166) bt454.1 bt454.2 x154 x155 x156 x164 x165 x166 (t460 != t461) x402000 x402001 x402002 x402003 x402004 x446000 x446001 x446002 x446003 x446004)))))) else (repriselaw23_EventTells.j6 k x4 x7 (rd x164 x166) bt454.1 bt454.2 x154 x155 x156 x164 x165 x166 true x402000 x402001 x402002 x402003 x402004 x446000 x446001 x446002 x446003 x446004)) else (repriselaw23_EventTells.j6 k x4 x7 (rd x164 x166) bt454.1 bt454.2 x154 x155 x156 x164 x165 x166 true x402000 x402001 x402002 x402003 x402004 x446000 x446001 x446002 x446003 x446004)))) else (none)) else (none)) else (repriselaw23_EventTells.l2 k x4 x7 x154 x155 (wrap64 (x156 + 1)) x402000 x402001 x402002 x402003 x402004)
def repriselaw23_EventTells.j6 : Nat → Int → Int → Int → List Int → Int → List (S30) → Int → Int → List Int → Int → Int → Bool → Int → Int → List Int → Int → Int → Int → Int → List Int → Int → Int → Option (Bool)
|0,_,_,_,_,_,_,_,_,_,_,_,_,_,_,_,_,_,_,_,_,_,_=>none
|k + 1,x4,x7,x29,x32,x33,x154,x155,x156,x164,x165,x166,x208,x402000,x402001,x402002,x402003,x402004,x446000,x446001,x446002,x446003,x446004=>if x208 = true then (none) else (if x33 = 0 then ((event_Read.f k x29 x32).bind fun bt462=>(if bt462.2.2.2.2.2.2 = 0 then (if bt462.2.2.2.2.2.1 = (x32.length : Int) then ((repriseref23_Same.f bt462.1 bt462.2.1 bt462.2.2.1 bt462.2.2.2.1 bt462.2.2.2.2.1 x446000 x446001 x446002 x446003 x446004).bind fun t472=>(if t472 = true then (repriselaw23_EventTells.l3 k x4 x7 x154 x155 x156 x164 x165 (wrap64 (x166 + 1)) x402000 x402001 x402002 x402003 x402004 x446000 x446001 x446002 x446003 x446004) else (none))) else (none)) else (none))) else (repriselaw23_EventTells.l3 k x4 x7 x154 x155 x156 x164 x165 (wrap64 (x166 + 1)) x402000 x402001 x402002 x402003 x402004 x446000 x446001 x446002 x446003 x446004))
end
def repriselaw23_EventTells.f (k : Nat) (a0_0 : Int) (a0_1 : Int) (l0_2 : List Int) (a0_3 : Int) (a0_4 : Int) (l1 : List (S30)) (l2 : List Int) (l3 : List Int) (a4 : Int) (a5 : Int) (a6 : Int) (a7 : Int) : Option (Bool):=(repriselaw23_known.f).bind fun t402=>(if t402 = true then (if (l0_2.length : Int) > 60 then (repriselaw23_EventTells.j0 k l1 l2 l3 a4 a5 a6 a7 true a0_0 a0_1 l0_2 a0_3 a0_4) else (if (l1.length : Int) > 15 then (repriselaw23_EventTells.j0 k l1 l2 l3 a4 a5 a6 a7 true a0_0 a0_1 l0_2 a0_3 a0_4) else (if (l2.length : Int) > 20 then (repriselaw23_EventTells.j0 k l1 l2 l3 a4 a5 a6 a7 true a0_0 a0_1 l0_2 a0_3 a0_4) else (repriselaw23_EventTells.j0 k l1 l2 l3 a4 a5 a6 a7 (decide ((l3.length : Int) > 10)) a0_0 a0_1 l0_2 a0_3 a0_4)))) else (none))
theorem repriselaw23_EventTells.mono_l : ∀ k,(∀ y0 y1 y2 y3 y4 y5 y6 y7 y8 y9 y10 y11 y12,LeO (repriselaw23_EventTells.j0 k y0 y1 y2 y3 y4 y5 y6 y7 y8 y9 y10 y11 y12) (repriselaw23_EventTells.j0 (k + 1) y0 y1 y2 y3 y4 y5 y6 y7 y8 y9 y10 y11 y12))∧(∀ y0 y1 y2 y3 y4 y5 y6 y7 y8 y9 y10 y11 y12,LeO (repriselaw23_EventTells.l0 k y0 y1 y2 y3 y4 y5 y6 y7 y8 y9 y10 y11 y12) (repriselaw23_EventTells.l0 (k + 1) y0 y1 y2 y3 y4 y5 y6 y7 y8 y9 y10 y11 y12))∧(∀ y0 y1 y2 y3 y4 y5 y6 y7 y8 y9 y10 y11,LeO (repriselaw23_EventTells.j2 k y0 y1 y2 y3 y4 y5 y6 y7 y8 y9 y10 y11) (repriselaw23_EventTells.j2 (k + 1) y0 y1 y2 y3 y4 y5 y6 y7 y8 y9 y10 y11))∧(∀ y0 y1 y2 y3 y4 y5 y6 y7 y8 y9 y10 y11 y12,LeO (repriselaw23_EventTells.l1 k y0 y1 y2 y3 y4 y5 y6 y7 y8 y9 y10 y11 y12) (repriselaw23_EventTells.l1 (k + 1) y0 y1 y2 y3 y4 y5 y6 y7 y8 y9 y10 y11 y12))∧(∀ y0 y1 y2 y3 y4 y5 y6 y7 y8 y9,LeO (repriselaw23_EventTells.l2 k y0 y1 y2 y3 y4 y5 y6 y7 y8 y9) (repriselaw23_EventTells.l2 (k + 1) y0 y1 y2 y3 y4 y5 y6 y7 y8 y9))∧(∀ y0 y1 y2 y3 y4 y5 y6 y7 y8 y9 y10 y11 y12 y13 y14 y15 y16 y17,LeO (repriselaw23_EventTells.l3 k y0 y1 y2 y3 y4 y5 y6 y7 y8 y9 y10 y11 y12 y13 y14 y15 y16 y17) (repriselaw23_EventTells.l3 (k + 1) y0 y1 y2 y3 y4 y5 y6 y7 y8 y9 y10 y11 y12 y13 y14 y15 y16 y17))∧(∀ y0 y1 y2 y3 y4 y5 y6 y7 y8 y9 y10 y11 y12 y13 y14 y15 y16 y17 y18 y19 y20 y21,LeO (repriselaw23_EventTells.j6 k y0 y1 y2 y3 y4 y5 y6 y7 y8 y9 y10 y11 y12 y13 y14 y15 y16 y17 y18 y19 y20 y21) (repriselaw23_EventTells.j6 (k + 1) y0 y1 y2 y3 y4 y5 y6 y7 y8 y9 y10 y11 y12 y13 y14 y15 y16 y17 y18 y19 y20 y21))
|0=>⟨fun _ _ _ _ _ _ _ _ _ _ _ _ _ r h=>by simp [repriselaw23_EventTells.j0] at h,fun _ _ _ _ _ _ _ _ _ _ _ _ _ r h=>by simp [repriselaw23_EventTells.l0] at h,fun _ _ _ _ _ _ _ _ _ _ _ _ r h=>by simp [repriselaw23_EventTells.j2] at h,fun _ _ _ _ _ _ _ _ _ _ _ _ _ r h=>by simp [repriselaw23_EventTells.l1] at h,fun _ _ _ _ _ _ _ _ _ _ r h=>by simp [repriselaw23_EventTells.l2] at h,fun _ _ _ _ _ _ _ _ _ _ _ _ _ _ _ _ _ _ r h=>by simp [repriselaw23_EventTells.l3] at h,fun _ _ _ _ _ _ _ _ _ _ _ _ _ _ _ _ _ _ _ _ _ _ r h=>by simp [repriselaw23_EventTells.j6] at h⟩
|k + 1=>by
  obtain ⟨ih0,ih1,ih2,ih3,ih4,ih5,ih6⟩:=repriselaw23_EventTells.mono_l k;refine ⟨?_,?_,?_,?_,?_,?_,?_⟩
  ·intro y0 y1 y2 y3 y4 y5 y6 y7 y8 y9 y10 y11 y12;unfold repriselaw23_EventTells.j0;repeat' first
  |(with_reducible exact ih0 _ _ _ _ _ _ _ _ _ _ _ _ _)
  |(with_reducible exact ih1 _ _ _ _ _ _ _ _ _ _ _ _ _)
  |(with_reducible exact ih2 _ _ _ _ _ _ _ _ _ _ _ _)
  |(with_reducible exact ih3 _ _ _ _ _ _ _ _ _ _ _ _ _)
  |(with_reducible exact ih4 _ _ _ _ _ _ _ _ _ _)
  |(with_reducible exact ih5 _ _ _ _ _ _ _ _ _ _ _ _ _ _ _ _ _ _)
  |(with_reducible exact ih6 _ _ _ _ _ _ _ _ _ _ _ _ _ _ _ _ _ _ _ _ _ _)
  |(with_reducible exact event_Check.mono _ _)
  |(with_reducible exact event_Put.mono _ _ _ _ _ _ _)
  |(with_reducible exact event_Read.mono _ _ _)
  |(with_reducible exact event_Right.mono _ _ _ _ _ _)
  |(with_reducible exact event_Until.mono _ _ _)
  |(with_reducible exact repriseref23_Check.mono _ _)
  |(with_reducible exact repriseref23_Fault.mono _ _ _ _ _ _ _)
  |(with_reducible exact repriseref23_Put.mono _ _ _ _ _ _ _)
  |(with_reducible exact repriseref23_Until.mono _ _ _)
  |(with_reducible exact repriseseat_Events.mono _ _ _)
  |(with_reducible exact LeO.refl _)
  |(with_reducible exact LeO.none _)
  |(with_reducible refine LeO.ite ?_ ?_)
  |(with_reducible refine LeO.bind ?_ (fun _=>?_))
  |exact ih0 _ _ _ _ _ _ _ _ _ _ _ _ _
  |exact ih1 _ _ _ _ _ _ _ _ _ _ _ _ _
  |exact ih2 _ _ _ _ _ _ _ _ _ _ _ _
  |exact ih3 _ _ _ _ _ _ _ _ _ _ _ _ _
  |exact ih4 _ _ _ _ _ _ _ _ _ _
  |exact ih5 _ _ _ _ _ _ _ _ _ _ _ _ _ _ _ _ _ _
  |exact ih6 _ _ _ _ _ _ _ _ _ _ _ _ _ _ _ _ _ _ _ _ _ _
  |exact event_Check.mono _ _
  |exact event_Put.mono _ _ _ _ _ _ _
  |exact event_Read.mono _ _ _
  |exact event_Right.mono _ _ _ _ _ _
  |exact event_Until.mono _ _ _
  |exact repriseref23_Check.mono _ _
  |exact repriseref23_Fault.mono _ _ _ _ _ _ _
  |exact repriseref23_Put.mono _ _ _ _ _ _ _
  |exact repriseref23_Until.mono _ _ _
  |exact repriseseat_Events.mono _ _ _
  |exact LeO.none _
  |refine LeO.ite ?_ ?_
  |refine LeO.bind ?_ (fun _=>?_)
  ·intro y0 y1 y2 y3 y4 y5 y6 y7 y8 y9 y10 y11 y12;unfold repriselaw23_EventTells.l0;repeat' first
  |(with_reducible exact ih0 _ _ _ _ _ _ _ _ _ _ _ _ _)
  |(with_reducible exact ih1 _ _ _ _ _ _ _ _ _ _ _ _ _)
  |(with_reducible exact ih2 _ _ _ _ _ _ _ _ _ _ _ _)
  |(with_reducible exact ih3 _ _ _ _ _ _ _ _ _ _ _ _ _)
  |(with_reducible exact ih4 _ _ _ _ _ _ _ _ _ _)
  |(with_reducible exact ih5 _ _ _ _ _ _ _ _ _ _ _ _ _ _ _ _ _ _)
  |(with_reducible exact ih6 _ _ _ _ _ _ _ _ _ _ _ _ _ _ _ _ _ _ _ _ _ _)
  |(with_reducible exact event_Check.mono _ _)
  |(with_reducible exact event_Put.mono _ _ _ _ _ _ _)
  |(with_reducible exact event_Read.mono _ _ _)
  |(with_reducible exact event_Right.mono _ _ _ _ _ _)
  |(with_reducible exact event_Until.mono _ _ _)
  |(with_reducible exact repriseref23_Check.mono _ _)
  |(with_reducible exact repriseref23_Fault.mono _ _ _ _ _ _ _)
  |(with_reducible exact repriseref23_Put.mono _ _ _ _ _ _ _)
  |(with_reducible exact repriseref23_Until.mono _ _ _)
  |(with_reducible exact repriseseat_Events.mono _ _ _)
  |(with_reducible exact LeO.refl _)
  |(with_reducible exact LeO.none _)
  |(with_reducible refine LeO.ite ?_ ?_)
  |(with_reducible refine LeO.bind ?_ (fun _=>?_))
  |exact ih0 _ _ _ _ _ _ _ _ _ _ _ _ _
  |exact ih1 _ _ _ _ _ _ _ _ _ _ _ _ _
  |exact ih2 _ _ _ _ _ _ _ _ _ _ _ _
  |exact ih3 _ _ _ _ _ _ _ _ _ _ _ _ _
  |exact ih4 _ _ _ _ _ _ _ _ _ _
  |exact ih5 _ _ _ _ _ _ _ _ _ _ _ _ _ _ _ _ _ _
  |exact ih6 _ _ _ _ _ _ _ _ _ _ _ _ _ _ _ _ _ _ _ _ _ _
  |exact event_Check.mono _ _
  |exact event_Put.mono _ _ _ _ _ _ _
  |exact event_Read.mono _ _ _
  |exact event_Right.mono _ _ _ _ _ _
  |exact event_Until.mono _ _ _
  |exact repriseref23_Check.mono _ _
  |exact repriseref23_Fault.mono _ _ _ _ _ _ _
  |exact repriseref23_Put.mono _ _ _ _ _ _ _
  |exact repriseref23_Until.mono _ _ _
  |exact repriseseat_Events.mono _ _ _
  |exact LeO.none _
  |refine LeO.ite ?_ ?_
  |refine LeO.bind ?_ (fun _=>?_)
  ·intro y0 y1 y2 y3 y4 y5 y6 y7 y8 y9 y10 y11;unfold repriselaw23_EventTells.j2;repeat' first
  |(with_reducible exact ih0 _ _ _ _ _ _ _ _ _ _ _ _ _)
  |(with_reducible exact ih1 _ _ _ _ _ _ _ _ _ _ _ _ _)
  |(with_reducible exact ih2 _ _ _ _ _ _ _ _ _ _ _ _)
  |(with_reducible exact ih3 _ _ _ _ _ _ _ _ _ _ _ _ _)
  |(with_reducible exact ih4 _ _ _ _ _ _ _ _ _ _)
  |(with_reducible exact ih5 _ _ _ _ _ _ _ _ _ _ _ _ _ _ _ _ _ _)
  |(with_reducible exact ih6 _ _ _ _ _ _ _ _ _ _ _ _ _ _ _ _ _ _ _ _ _ _)
  |(with_reducible exact event_Check.mono _ _)
  |(with_reducible exact event_Put.mono _ _ _ _ _ _ _)
  |(with_reducible exact event_Read.mono _ _ _)
  |(with_reducible exact event_Right.mono _ _ _ _ _ _)
  |(with_reducible exact event_Until.mono _ _ _)
  |(with_reducible exact repriseref23_Check.mono _ _)
  |(with_reducible exact repriseref23_Fault.mono _ _ _ _ _ _ _)
  |(with_reducible exact repriseref23_Put.mono _ _ _ _ _ _ _)
  |(with_reducible exact repriseref23_Until.mono _ _ _)
  |(with_reducible exact repriseseat_Events.mono _ _ _)
  |(with_reducible exact LeO.refl _)
  |(with_reducible exact LeO.none _)
  |(with_reducible refine LeO.ite ?_ ?_)
  |(with_reducible refine LeO.bind ?_ (fun _=>?_))
  |exact ih0 _ _ _ _ _ _ _ _ _ _ _ _ _
  |exact ih1 _ _ _ _ _ _ _ _ _ _ _ _ _
  |exact ih2 _ _ _ _ _ _ _ _ _ _ _ _
  |exact ih3 _ _ _ _ _ _ _ _ _ _ _ _ _
  |exact ih4 _ _ _ _ _ _ _ _ _ _
  |exact ih5 _ _ _ _ _ _ _ _ _ _ _ _ _ _ _ _ _ _
  |exact ih6 _ _ _ _ _ _ _ _ _ _ _ _ _ _ _ _ _ _ _ _ _ _
  |exact event_Check.mono _ _
  |exact event_Put.mono _ _ _ _ _ _ _
  |exact event_Read.mono _ _ _
  |exact event_Right.mono _ _ _ _ _ _
  |exact event_Until.mono _ _ _
  |exact repriseref23_Check.mono _ _
  |exact repriseref23_Fault.mono _ _ _ _ _ _ _
  |exact repriseref23_Put.mono _ _ _ _ _ _ _
  |exact repriseref23_Until.mono _ _ _
  |exact repriseseat_Events.mono _ _ _
  |exact LeO.none _
  |refine LeO.ite ?_ ?_
  |refine LeO.bind ?_ (fun _=>?_)
  ·intro y0 y1 y2 y3 y4 y5 y6 y7 y8 y9 y10 y11 y12;unfold repriselaw23_EventTells.l1;repeat' first
  |(with_reducible exact ih0 _ _ _ _ _ _ _ _ _ _ _ _ _)
  |(with_reducible exact ih1 _ _ _ _ _ _ _ _ _ _ _ _ _)
  |(with_reducible exact ih2 _ _ _ _ _ _ _ _ _ _ _ _)
  |(with_reducible exact ih3 _ _ _ _ _ _ _ _ _ _ _ _ _)
  |(with_reducible exact ih4 _ _ _ _ _ _ _ _ _ _)
  |(with_reducible exact ih5 _ _ _ _ _ _ _ _ _ _ _ _ _ _ _ _ _ _)
  |(with_reducible exact ih6 _ _ _ _ _ _ _ _ _ _ _ _ _ _ _ _ _ _ _ _ _ _)
  |(with_reducible exact event_Check.mono _ _)
  |(with_reducible exact event_Put.mono _ _ _ _ _ _ _)
  |(with_reducible exact event_Read.mono _ _ _)
  |(with_reducible exact event_Right.mono _ _ _ _ _ _)
  |(with_reducible exact event_Until.mono _ _ _)
  |(with_reducible exact repriseref23_Check.mono _ _)
  |(with_reducible exact repriseref23_Fault.mono _ _ _ _ _ _ _)
  |(with_reducible exact repriseref23_Put.mono _ _ _ _ _ _ _)
  |(with_reducible exact repriseref23_Until.mono _ _ _)
  |(with_reducible exact repriseseat_Events.mono _ _ _)
  |(with_reducible exact LeO.refl _)
  |(with_reducible exact LeO.none _)
  |(with_reducible refine LeO.ite ?_ ?_)
  |(with_reducible refine LeO.bind ?_ (fun _=>?_))
  |exact ih0 _ _ _ _ _ _ _ _ _ _ _ _ _
  |exact ih1 _ _ _ _ _ _ _ _ _ _ _ _ _
  |exact ih2 _ _ _ _ _ _ _ _ _ _ _ _
  |exact ih3 _ _ _ _ _ _ _ _ _ _ _ _ _
  |exact ih4 _ _ _ _ _ _ _ _ _ _
  |exact ih5 _ _ _ _ _ _ _ _ _ _ _ _ _ _ _ _ _ _
  |exact ih6 _ _ _ _ _ _ _ _ _ _ _ _ _ _ _ _ _ _ _ _ _ _
  |exact event_Check.mono _ _
  |exact event_Put.mono _ _ _ _ _ _ _
  |exact event_Read.mono _ _ _
  |exact event_Right.mono _ _ _ _ _ _
  |exact event_Until.mono _ _ _
  |exact repriseref23_Check.mono _ _
  |exact repriseref23_Fault.mono _ _ _ _ _ _ _
  |exact repriseref23_Put.mono _ _ _ _ _ _ _
  |exact repriseref23_Until.mono _ _ _
  |exact repriseseat_Events.mono _ _ _
  |exact LeO.none _
  |refine LeO.ite ?_ ?_
  |refine LeO.bind ?_ (fun _=>?_)
  ·intro y0 y1 y2 y3 y4 y5 y6 y7 y8 y9;unfold repriselaw23_EventTells.l2;repeat' first
  |(with_reducible exact ih0 _ _ _ _ _ _ _ _ _ _ _ _ _)
  |(with_reducible exact ih1 _ _ _ _ _ _ _ _ _ _ _ _ _)
  |(with_reducible exact ih2 _ _ _ _ _ _ _ _ _ _ _ _)
  |(with_reducible exact ih3 _ _ _ _ _ _ _ _ _ _ _ _ _)
  |(with_reducible exact ih4 _ _ _ _ _ _ _ _ _ _)
  |(with_reducible exact ih5 _ _ _ _ _ _ _ _ _ _ _ _ _ _ _ _ _ _)
  |(with_reducible exact ih6 _ _ _ _ _ _ _ _ _ _ _ _ _ _ _ _ _ _ _ _ _ _)
  |(with_reducible exact event_Check.mono _ _)
  |(with_reducible exact event_Put.mono _ _ _ _ _ _ _)
  |(with_reducible exact event_Read.mono _ _ _)
  |(with_reducible exact event_Right.mono _ _ _ _ _ _)
  |(with_reducible exact event_Until.mono _ _ _)
  |(with_reducible exact repriseref23_Check.mono _ _)
  |(with_reducible exact repriseref23_Fault.mono _ _ _ _ _ _ _)
  |(with_reducible exact repriseref23_Put.mono _ _ _ _ _ _ _)
  |(with_reducible exact repriseref23_Until.mono _ _ _)
  |(with_reducible exact repriseseat_Events.mono _ _ _)
  |(with_reducible exact LeO.refl _)
  |(with_reducible exact LeO.none _)
  |(with_reducible refine LeO.ite ?_ ?_)
  |(with_reducible refine LeO.bind ?_ (fun _=>?_))
  |exact ih0 _ _ _ _ _ _ _ _ _ _ _ _ _
  |exact ih1 _ _ _ _ _ _ _ _ _ _ _ _ _
  |exact ih2 _ _ _ _ _ _ _ _ _ _ _ _
  |exact ih3 _ _ _ _ _ _ _ _ _ _ _ _ _
  |exact ih4 _ _ _ _ _ _ _ _ _ _
  |exact ih5 _ _ _ _ _ _ _ _ _ _ _ _ _ _ _ _ _ _
  |exact ih6 _ _ _ _ _ _ _ _ _ _ _ _ _ _ _ _ _ _ _ _ _ _
  |exact event_Check.mono _ _
  |exact event_Put.mono _ _ _ _ _ _ _
  |exact event_Read.mono _ _ _
  |exact event_Right.mono _ _ _ _ _ _
  |exact event_Until.mono _ _ _
  |exact repriseref23_Check.mono _ _
  |exact repriseref23_Fault.mono _ _ _ _ _ _ _
  |exact repriseref23_Put.mono _ _ _ _ _ _ _
  |exact repriseref23_Until.mono _ _ _
  |exact repriseseat_Events.mono _ _ _
  |exact LeO.none _
  |refine LeO.ite ?_ ?_
  |refine LeO.bind ?_ (fun _=>?_)
  ·intro y0 y1 y2 y3 y4 y5 y6 y7 y8 y9 y10 y11 y12 y13 y14 y15 y16 y17;unfold repriselaw23_EventTells.l3;repeat' first
  |(with_reducible exact ih0 _ _ _ _ _ _ _ _ _ _ _ _ _)
  |(with_reducible exact ih1 _ _ _ _ _ _ _ _ _ _ _ _ _)
  |(with_reducible exact ih2 _ _ _ _ _ _ _ _ _ _ _ _)
  |(with_reducible exact ih3 _ _ _ _ _ _ _ _ _ _ _ _ _)
  |(with_reducible exact ih4 _ _ _ _ _ _ _ _ _ _)
  |(with_reducible exact ih5 _ _ _ _ _ _ _ _ _ _ _ _ _ _ _ _ _ _)
  |(with_reducible exact ih6 _ _ _ _ _ _ _ _ _ _ _ _ _ _ _ _ _ _ _ _ _ _)
  |(with_reducible exact event_Check.mono _ _)
  |(with_reducible exact event_Put.mono _ _ _ _ _ _ _)
  |(with_reducible exact event_Read.mono _ _ _)
  |(with_reducible exact event_Right.mono _ _ _ _ _ _)
  |(with_reducible exact event_Until.mono _ _ _)
  |(with_reducible exact repriseref23_Check.mono _ _)
  |(with_reducible exact repriseref23_Fault.mono _ _ _ _ _ _ _)
  |(with_reducible exact repriseref23_Put.mono _ _ _ _ _ _ _)
  |(with_reducible exact repriseref23_Until.mono _ _ _)
  |(with_reducible exact repriseseat_Events.mono _ _ _)
  |(with_reducible exact LeO.refl _)
  |(with_reducible exact LeO.none _)
  |(with_reducible refine LeO.ite ?_ ?_)
  |(with_reducible refine LeO.bind ?_ (fun _=>?_))
  |exact ih0 _ _ _ _ _ _ _ _ _ _ _ _ _
  |exact ih1 _ _ _ _ _ _ _ _ _ _ _ _ _
  |exact ih2 _ _ _ _ _ _ _ _ _ _ _ _
  |exact ih3 _ _ _ _ _ _ _ _ _ _ _ _ _
  |exact ih4 _ _ _ _ _ _ _ _ _ _
  |exact ih5 _ _ _ _ _ _ _ _ _ _ _ _ _ _ _ _ _ _
  |exact ih6 _ _ _ _ _ _ _ _ _ _ _ _ _ _ _ _ _ _ _ _ _ _
  |exact event_Check.mono _ _
  |exact event_Put.mono _ _ _ _ _ _ _
  |exact event_Read.mono _ _ _
  |exact event_Right.mono _ _ _ _ _ _
  |exact event_Until.mono _ _ _
  |exact repriseref23_Check.mono _ _
  |exact repriseref23_Fault.mono _ _ _ _ _ _ _
  |exact repriseref23_Put.mono _ _ _ _ _ _ _
  |exact repriseref23_Until.mono _ _ _
  |exact repriseseat_Events.mono _ _ _
  |exact LeO.none _
  |refine LeO.ite ?_ ?_
  |refine LeO.bind ?_ (fun _=>?_)
  ·intro y0 y1 y2 y3 y4 y5 y6 y7 y8 y9 y10 y11 y12 y13 y14 y15 y16 y17 y18 y19 y20 y21;unfold repriselaw23_EventTells.j6;repeat' first
  |(with_reducible exact ih0 _ _ _ _ _ _ _ _ _ _ _ _ _)
  |(with_reducible exact ih1 _ _ _ _ _ _ _ _ _ _ _ _ _)
  |(with_reducible exact ih2 _ _ _ _ _ _ _ _ _ _ _ _)
  |(with_reducible exact ih3 _ _ _ _ _ _ _ _ _ _ _ _ _)
  |(with_reducible exact ih4 _ _ _ _ _ _ _ _ _ _)
  |(with_reducible exact ih5 _ _ _ _ _ _ _ _ _ _ _ _ _ _ _ _ _ _)
  |(with_reducible exact ih6 _ _ _ _ _ _ _ _ _ _ _ _ _ _ _ _ _ _ _ _ _ _)
  |(with_reducible exact event_Check.mono _ _)
  |(with_reducible exact event_Put.mono _ _ _ _ _ _ _)
  |(with_reducible exact event_Read.mono _ _ _)
  |(with_reducible exact event_Right.mono _ _ _ _ _ _)
  |(with_reducible exact event_Until.mono _ _ _)
  |(with_reducible exact repriseref23_Check.mono _ _)
  |(with_reducible exact repriseref23_Fault.mono _ _ _ _ _ _ _)
  |(with_reducible exact repriseref23_Put.mono _ _ _ _ _ _ _)
  |(with_reducible exact repriseref23_Until.mono _ _ _)
  |(with_reducible exact repriseseat_Events.mono _ _ _)
  |(with_reducible exact LeO.refl _)
  |(with_reducible exact LeO.none _)
  |(with_reducible refine LeO.ite ?_ ?_)
  |(with_reducible refine LeO.bind ?_ (fun _=>?_))
  |exact ih0 _ _ _ _ _ _ _ _ _ _ _ _ _
  |exact ih1 _ _ _ _ _ _ _ _ _ _ _ _ _
  |exact ih2 _ _ _ _ _ _ _ _ _ _ _ _
  |exact ih3 _ _ _ _ _ _ _ _ _ _ _ _ _
  |exact ih4 _ _ _ _ _ _ _ _ _ _
  |exact ih5 _ _ _ _ _ _ _ _ _ _ _ _ _ _ _ _ _ _
  |exact ih6 _ _ _ _ _ _ _ _ _ _ _ _ _ _ _ _ _ _ _ _ _ _
  |exact event_Check.mono _ _
  |exact event_Put.mono _ _ _ _ _ _ _
  |exact event_Read.mono _ _ _
  |exact event_Right.mono _ _ _ _ _ _
  |exact event_Until.mono _ _ _
  |exact repriseref23_Check.mono _ _
  |exact repriseref23_Fault.mono _ _ _ _ _ _ _
  |exact repriseref23_Put.mono _ _ _ _ _ _ _
  |exact repriseref23_Until.mono _ _ _
  |exact repriseseat_Events.mono _ _ _
  |exact LeO.none _
  |refine LeO.ite ?_ ?_
  |refine LeO.bind ?_ (fun _=>?_)
theorem repriselaw23_EventTells.mono : ∀ a0 a1 a2 a3 a4 a5 a6 a7 a8 a9 a10 a11 k,LeO (repriselaw23_EventTells.f k a0 a1 a2 a3 a4 a5 a6 a7 a8 a9 a10 a11) (repriselaw23_EventTells.f (k + 1) a0 a1 a2 a3 a4 a5 a6 a7 a8 a9 a10 a11):=by
 intro a0 a1 a2 a3 a4 a5 a6 a7 a8 a9 a10 a11 k;obtain ⟨ih0,ih1,ih2,ih3,ih4,ih5,ih6⟩:=repriselaw23_EventTells.mono_l k;unfold repriselaw23_EventTells.f;repeat' first
 |(with_reducible exact ih0 _ _ _ _ _ _ _ _ _ _ _ _ _)
 |(with_reducible exact ih1 _ _ _ _ _ _ _ _ _ _ _ _ _)
 |(with_reducible exact ih2 _ _ _ _ _ _ _ _ _ _ _ _)
 |(with_reducible exact ih3 _ _ _ _ _ _ _ _ _ _ _ _ _)
 |(with_reducible exact ih4 _ _ _ _ _ _ _ _ _ _)
 |(with_reducible exact ih5 _ _ _ _ _ _ _ _ _ _ _ _ _ _ _ _ _ _)
 |(with_reducible exact ih6 _ _ _ _ _ _ _ _ _ _ _ _ _ _ _ _ _ _ _ _ _ _)
 |(with_reducible exact event_Check.mono _ _)
 |(with_reducible exact event_Put.mono _ _ _ _ _ _ _)
 |(with_reducible exact event_Read.mono _ _ _)
 |(with_reducible exact event_Right.mono _ _ _ _ _ _)
 |(with_reducible exact event_Until.mono _ _ _)
 |(with_reducible exact repriseref23_Check.mono _ _)
 |(with_reducible exact repriseref23_Fault.mono _ _ _ _ _ _ _)
 |(with_reducible exact repriseref23_Put.mono _ _ _ _ _ _ _)
 |(with_reducible exact repriseref23_Until.mono _ _ _)
 |(with_reducible exact repriseseat_Events.mono _ _ _)
 |(with_reducible exact LeO.refl _)
 |(with_reducible exact LeO.none _)
 |(with_reducible refine LeO.ite ?_ ?_)
 |(with_reducible refine LeO.bind ?_ (fun _=>?_))
 |exact ih0 _ _ _ _ _ _ _ _ _ _ _ _ _
 |exact ih1 _ _ _ _ _ _ _ _ _ _ _ _ _
 |exact ih2 _ _ _ _ _ _ _ _ _ _ _ _
 |exact ih3 _ _ _ _ _ _ _ _ _ _ _ _ _
 |exact ih4 _ _ _ _ _ _ _ _ _ _
 |exact ih5 _ _ _ _ _ _ _ _ _ _ _ _ _ _ _ _ _ _
 |exact ih6 _ _ _ _ _ _ _ _ _ _ _ _ _ _ _ _ _ _ _ _ _ _
 |exact event_Check.mono _ _
 |exact event_Put.mono _ _ _ _ _ _ _
 |exact event_Read.mono _ _ _
 |exact event_Right.mono _ _ _ _ _ _
 |exact event_Until.mono _ _ _
 |exact repriseref23_Check.mono _ _
 |exact repriseref23_Fault.mono _ _ _ _ _ _ _
 |exact repriseref23_Put.mono _ _ _ _ _ _ _
 |exact repriseref23_Until.mono _ _ _
 |exact repriseseat_Events.mono _ _ _
 |exact LeO.none _
 |refine LeO.ite ?_ ?_
 |refine LeO.bind ?_ (fun _=>?_)
end Go.Proofs.Ytmaefdeigienjaa.QEventTells
