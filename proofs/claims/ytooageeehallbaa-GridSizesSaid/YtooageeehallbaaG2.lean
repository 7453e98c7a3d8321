/- Parts of the claim's proof, merged; no condition beyond what each theorem states. -/
import Derived.Test.YtooageeehallbaaG1
namespace Go.Proofs.Ytooageeehallbaa.QRunsCut
open Go.RowKit Go.Proofs.YtooageeehallbaaW.PrintWords Go.Proofs.YtooageeehallbaaW.PrintLast Go.Proofs.YtooageeehallbaaW.PrintMore
attribute [local go_sem] max2_int min2_int max_two min_two max_three min_three max_four min_four 
set_option linter.unusedVariables false
set_option linter.unusedSimpArgs false
/-! ### repriseref1_May: function 48 -/
def repriseref1_May.f (a0 : Int) : Option (Bool):=if a0 ≥ 0 then (if a0 ≤ 1114111 then (if a0 < 55296 then (some true) else (some (decide (a0 > 57343)))) else (some false)) else (some false)
set_option maxHeartbeats 8000000 in
set_option maxRecDepth 100000 in
theorem repriseref1_May.calls (a0 : Int) (r : Bool) (w : World) (h : repriseref1_May.f a0 = some r) :
 Calls Try.prog 48 #[.int .i32 a0] w fun e w'=>e = .returned (.bool r)∧Drawn0 w w':=by
 have H : (if a0 ≥ 0 then (if a0 ≤ 1114111 then (if a0 < 55296 then (some true) else (some (decide (a0 > 57343)))) else (some false)) else (some false)) = some r:=h;clear h;by_cases c2 : a0 ≥ 0
 ·rw [if_pos c2] at H;have c2b0 : decide (0 ≤ a0) = true:=zC c2;clear c2;by_cases c3 : a0 ≤ 1114111
  ·rw [if_pos c3] at H;have c3b0 : decide (a0 ≤ 1114111) = true:=zC c3;clear c3;by_cases c4 : a0 < 55296
   ·rw [if_pos c4] at H;have c4b0 : decide (a0 < 55296) = true:=zC c4;clear c4;obtain rfl:=zY H;go_enter Try.func48,Try.ntmps48
    go_wp2;go_ret;exact ⟨by rfl,by exact Drawn0.refl _⟩
   ·rw [if_neg c4] at H;have c4b0 : decide (a0 < 55296) = false:=zD c4;clear c4;obtain rfl:=zY H;go_enter Try.func48,Try.ntmps48
    go_wp2;go_ret;exact ⟨by rfl,by exact Drawn0.refl _⟩
  ·rw [if_neg c3] at H;have c3b0 : decide (a0 ≤ 1114111) = false:=zD c3;clear c3;obtain rfl:=zY H;go_enter Try.func48,Try.ntmps48
   go_wp2;go_ret;exact ⟨by rfl,by exact Drawn0.refl _⟩
 ·rw [if_neg c2] at H;have c2b0 : decide (0 ≤ a0) = false:=zD c2;clear c2;obtain rfl:=zY H;go_enter Try.func48,Try.ntmps48
  go_wp2;go_ret;exact ⟨by rfl,by exact Drawn0.refl _⟩
/-! ### repriseref1_whole: function 70 -/
mutual
def repriseref1_whole.j3 : Nat → List Int → Int → Int → Int → Option (Int × Bool)
|0,_,_,_,_=>none
|k + 1,x0,x5,x6,x7=>if (x0.length : Int) = x5 then (repriseref1_whole.l0 k x0 x5 x6 x7 1) else (some (0,false))
def repriseref1_whole.l0 : Nat → List Int → Int → Int → Int → Int → Option (Int × Bool)
|0,_,_,_,_,_=>none
|k + 1,x0,x5,x6,x7,x8=>if x8 < x5 then (if 0 ≤ x8 then (if x8 < (x0.length : Int) then (if (Go.bits .and .u8 (rd x0 x8) 192) = 128 then (repriseref1_whole.l0 k x0 x5 x6 (Go.bits .or .i32 (wrap32 (x7 * 64)) (wrap32 (Go.bits .and .u8 (rd x0 x8) 63))) (wrap64 (x8 + 1))) else (some (0,false))) else (none)) else (none)) else (if x7 ≥ x6 then ((repriseref1_May.f x7).bind fun t132=>(some (x7,t132))) else (some (x7,false)))
def repriseref1_whole.j0 : Nat → List Int → Int → Int → Int → Int → Bool → Option (Int × Bool)
|0,_,_,_,_,_,_=>none
|k + 1,x0,x4,x5,x6,x7,x14=>if x14 = true then (repriseref1_whole.j3 k x0 2 128 (wrap32 (Go.bits .and .u8 x4 31))) else (if x4 ≥ 224 then (repriseref1_whole.j1 k x0 x4 x5 x6 x7 (decide (x4 < 240))) else (repriseref1_whole.j1 k x0 x4 x5 x6 x7 false))
def repriseref1_whole.j1 : Nat → List Int → Int → Int → Int → Int → Bool → Option (Int × Bool)
|0,_,_,_,_,_,_=>none
|k + 1,x0,x4,x5,x6,x7,x24=>if x24 = true then (repriseref1_whole.j3 k x0 3 2048 (wrap32 (Go.bits .and .u8 x4 15))) else (if x4 ≥ 240 then (repriseref1_whole.j2 k x0 x4 x5 x6 x7 (decide (x4 < 248))) else (repriseref1_whole.j2 k x0 x4 x5 x6 x7 false))
def repriseref1_whole.j2 : Nat → List Int → Int → Int → Int → Int → Bool → Option (Int × Bool)
|0,_,_,_,_,_,_=>none
|k + 1,x0,x4,x5,x6,x7,x34=>if x34 = true then (repriseref1_whole.j3 k x0 4 65536 (wrap32 (Go.bits .and .u8 x4 7))) else (if x4 ≥ 128 then (some (0,false)) else (repriseref1_whole.j3 k x0 x5 x6 x7))
end
def repriseref1_whole.f (k : Nat) (l0 : List Int) : Option (Int × Bool):=if 0 < (l0.length : Int) then (if (rd l0 0) ≥ 192 then (repriseref1_whole.j0 k l0 (rd l0 0) 1 0 (wrap32 (rd l0 0)) (decide ((rd l0 0) < 224))) else (repriseref1_whole.j0 k l0 (rd l0 0) 1 0 (wrap32 (rd l0 0)) false)) else (none)
theorem repriseref1_whole.mono_l : ∀ k,(∀ y0 y1 y2 y3,LeO (repriseref1_whole.j3 k y0 y1 y2 y3) (repriseref1_whole.j3 (k + 1) y0 y1 y2 y3))∧(∀ y0 y1 y2 y3 y4,LeO (repriseref1_whole.l0 k y0 y1 y2 y3 y4) (repriseref1_whole.l0 (k + 1) y0 y1 y2 y3 y4))∧(∀ y0 y1 y2 y3 y4 y5,LeO (repriseref1_whole.j0 k y0 y1 y2 y3 y4 y5) (repriseref1_whole.j0 (k + 1) y0 y1 y2 y3 y4 y5))∧(∀ y0 y1 y2 y3 y4 y5,LeO (repriseref1_whole.j1 k y0 y1 y2 y3 y4 y5) (repriseref1_whole.j1 (k + 1) y0 y1 y2 y3 y4 y5))∧(∀ y0 y1 y2 y3 y4 y5,LeO (repriseref1_whole.j2 k y0 y1 y2 y3 y4 y5) (repriseref1_whole.j2 (k + 1) y0 y1 y2 y3 y4 y5))
|0=>⟨fun _ _ _ _ r h=>by simp [repriseref1_whole.j3] at h,fun _ _ _ _ _ r h=>by simp [repriseref1_whole.l0] at h,fun _ _ _ _ _ _ r h=>by simp [repriseref1_whole.j0] at h,fun _ _ _ _ _ _ r h=>by simp [repriseref1_whole.j1] at h,fun _ _ _ _ _ _ r h=>by simp [repriseref1_whole.j2] at h⟩
|k + 1=>by
  obtain ⟨ih0,ih1,ih2,ih3,ih4⟩:=repriseref1_whole.mono_l k;refine ⟨?_,?_,?_,?_,?_⟩
  ·intro y0 y1 y2 y3;unfold repriseref1_whole.j3;repeat' first
  |(with_reducible exact ih0 _ _ _ _)
  |(with_reducible exact ih1 _ _ _ _ _)
  |(with_reducible exact ih2 _ _ _ _ _ _)
  |(with_reducible exact ih3 _ _ _ _ _ _)
  |(with_reducible exact ih4 _ _ _ _ _ _)
  |(with_reducible exact LeO.refl _)
  |(with_reducible exact LeO.none _)
  |(with_reducible refine LeO.ite ?_ ?_)
  |(with_reducible refine LeO.bind ?_ (fun _=>?_))
  |exact ih0 _ _ _ _
  |exact ih1 _ _ _ _ _
  |exact ih2 _ _ _ _ _ _
  |exact ih3 _ _ _ _ _ _
  |exact ih4 _ _ _ _ _ _
  |exact LeO.none _
  |refine LeO.ite ?_ ?_
  |refine LeO.bind ?_ (fun _=>?_)
  ·intro y0 y1 y2 y3 y4;unfold repriseref1_whole.l0;repeat' first
  |(with_reducible exact ih0 _ _ _ _)
  |(with_reducible exact ih1 _ _ _ _ _)
  |(with_reducible exact ih2 _ _ _ _ _ _)
  |(with_reducible exact ih3 _ _ _ _ _ _)
  |(with_reducible exact ih4 _ _ _ _ _ _)
  |(with_reducible exact LeO.refl _)
  |(with_reducible exact LeO.none _)
  |(with_reducible refine LeO.ite ?_ ?_)
  |(with_reducible refine LeO.bind ?_ (fun _=>?_))
  |exact ih0 _ _ _ _
  |exact ih1 _ _ _ _ _
  |exact ih2 _ _ _ _ _ _
  |exact ih3 _ _ _ _ _ _
  |exact ih4 _ _ _ _ _ _
  |exact LeO.none _
  |refine LeO.ite ?_ ?_
  |refine LeO.bind ?_ (fun _=>?_)
  ·intro y0 y1 y2 y3 y4 y5;unfold repriseref1_whole.j0;repeat' first
  |(with_reducible exact ih0 _ _ _ _)
  |(with_reducible exact ih1 _ _ _ _ _)
  |(with_reducible exact ih2 _ _ _ _ _ _)
  |(with_reducible exact ih3 _ _ _ _ _ _)
  |(with_reducible exact ih4 _ _ _ _ _ _)
  |(with_reducible exact LeO.refl _)
  |(with_reducible exact LeO.none _)
  |(with_reducible refine LeO.ite ?_ ?_)
  |(with_reducible refine LeO.bind ?_ (fun _=>?_))
  |exact ih0 _ _ _ _
  |exact ih1 _ _ _ _ _
  |exact ih2 _ _ _ _ _ _
  |exact ih3 _ _ _ _ _ _
  |exact ih4 _ _ _ _ _ _
  |exact LeO.none _
  |refine LeO.ite ?_ ?_
  |refine LeO.bind ?_ (fun _=>?_)
  ·intro y0 y1 y2 y3 y4 y5;unfold repriseref1_whole.j1;repeat' first
  |(with_reducible exact ih0 _ _ _ _)
  |(with_reducible exact ih1 _ _ _ _ _)
  |(with_reducible exact ih2 _ _ _ _ _ _)
  |(with_reducible exact ih3 _ _ _ _ _ _)
  |(with_reducible exact ih4 _ _ _ _ _ _)
  |(with_reducible exact LeO.refl _)
  |(with_reducible exact LeO.none _)
  |(with_reducible refine LeO.ite ?_ ?_)
  |(with_reducible refine LeO.bind ?_ (fun _=>?_))
  |exact ih0 _ _ _ _
  |exact ih1 _ _ _ _ _
  |exact ih2 _ _ _ _ _ _
  |exact ih3 _ _ _ _ _ _
  |exact ih4 _ _ _ _ _ _
  |exact LeO.none _
  |refine LeO.ite ?_ ?_
  |refine LeO.bind ?_ (fun _=>?_)
  ·intro y0 y1 y2 y3 y4 y5;unfold repriseref1_whole.j2;repeat' first
  |(with_reducible exact ih0 _ _ _ _)
  |(with_reducible exact ih1 _ _ _ _ _)
  |(with_reducible exact ih2 _ _ _ _ _ _)
  |(with_reducible exact ih3 _ _ _ _ _ _)
  |(with_reducible exact ih4 _ _ _ _ _ _)
  |(with_reducible exact LeO.refl _)
  |(with_reducible exact LeO.none _)
  |(with_reducible refine LeO.ite ?_ ?_)
  |(with_reducible refine LeO.bind ?_ (fun _=>?_))
  |exact ih0 _ _ _ _
  |exact ih1 _ _ _ _ _
  |exact ih2 _ _ _ _ _ _
  |exact ih3 _ _ _ _ _ _
  |exact ih4 _ _ _ _ _ _
  |exact LeO.none _
  |refine LeO.ite ?_ ?_
  |refine LeO.bind ?_ (fun _=>?_)
theorem repriseref1_whole.mono : ∀ a0 k,LeO (repriseref1_whole.f k a0) (repriseref1_whole.f (k + 1) a0):=by
 intro a0 k;obtain ⟨ih0,ih1,ih2,ih3,ih4⟩:=repriseref1_whole.mono_l k;unfold repriseref1_whole.f;repeat' first
 |(with_reducible exact ih0 _ _ _ _)
 |(with_reducible exact ih1 _ _ _ _ _)
 |(with_reducible exact ih2 _ _ _ _ _ _)
 |(with_reducible exact ih3 _ _ _ _ _ _)
 |(with_reducible exact ih4 _ _ _ _ _ _)
 |(with_reducible exact LeO.refl _)
 |(with_reducible exact LeO.none _)
 |(with_reducible refine LeO.ite ?_ ?_)
 |(with_reducible refine LeO.bind ?_ (fun _=>?_))
 |exact ih0 _ _ _ _
 |exact ih1 _ _ _ _ _
 |exact ih2 _ _ _ _ _ _
 |exact ih3 _ _ _ _ _ _
 |exact ih4 _ _ _ _ _ _
 |exact LeO.none _
 |refine LeO.ite ?_ ?_
 |refine LeO.bind ?_ (fun _=>?_)
set_option maxHeartbeats 8000000 in
set_option maxRecDepth 100000 in
theorem repriseref1_whole.calls (k : Nat) (A0 : Option Addr) (c0 : Nat) (l0 : List Int) (r1 : Int) (r2 : Bool) (w : World) (hr0 : Kd.C (Kd.int .u8) w A0 l0.length l0) (hc0 : l0.length ≤ c0) (h : repriseref1_whole.f k l0 = some (r1,r2)) :
 Calls Try.prog 70 #[.slice A0 l0.length c0] w fun e w'=>e = .returned (.tuple #[.int .i32 r1,.bool r2])∧Drawn0 w w':=by
 have HR0:=zA hr0;have HC0:=zA hc0;clear hr0 hc0;have H : (if 0 < (l0.length : Int) then (if (rd l0 0) ≥ 192 then (repriseref1_whole.j0 k l0 (rd l0 0) 1 0 (wrap32 (rd l0 0)) (decide ((rd l0 0) < 224))) else (repriseref1_whole.j0 k l0 (rd l0 0) 1 0 (wrap32 (rd l0 0)) false)) else (none)) = some (r1,r2):=h;clear h;by_cases c2 : 0 < (l0.length : Int)
 ·rw [if_pos c2] at H;have c2b0 : decide (0 < (l0.length : Int)) = true:=zC c2;have c2b1 : decide (0 < l0.length) = true:=zC (by omega);clear c2;have HC3:=zA H;clear H;have p129 : 0 ≤ (0 : Int):=(by omega);have q129 : 0 < (l0.length : Int):=od;obtain ⟨ad129,e129,hx129_0⟩:=Kd.at_int HR0.out 0 p129 q129;cases e129;have qi129 : (0 < l0.length) = True:=eq_true (by omega);(try rw [show ((0 : Int)).toNat = 0 from rfl] at hx129_0);(try rw [Addr.add_zero'] at hx129_0);replace p129:=eq_true p129;replace q129:=eq_true q129;go_enter Try.func70,Try.ntmps70
  go_upto_block 0 with (fail)
  go_cut [5,6,7] (fun v5 v6 v7 wc=>∃ (kq : Nat) (x5_2 : Int) (x6_2 : Int) (x7_2 : Int),v5 = .int .i64 x5_2∧v6 = .int .i32 x6_2∧v7 = .int .i32 x7_2∧Aside0 (repriseref1_whole.j3 kq l0 x5_2 x6_2 x7_2 = some (r1,r2))∧Aside0 (kq ≤ k)∧Drawn0 w wc)
  case first =>
   have H:=HC3.out;clear HC3;have HC4:=zA H;clear H;go_upto_region 3 with (fail)
   go_cut [14] (fun v14 wc=>∃ (kq : Nat) (x14_3 : Bool),v14 = .bool x14_3∧Aside0 (repriseref1_whole.j0 kq l0 (rd l0 0) 1 0 (wrap32 (rd l0 0)) x14_3 = some (r1,r2))∧Aside0 (kq ≤ k)∧Drawn0 w wc)
   case first =>
    have H:=HC4.out;clear HC4;by_cases c5 : (rd l0 0) ≥ 192
    ·rw [if_pos c5] at H;have c5b0 : decide (192 ≤ (rd l0 0)) = true:=zC c5;clear c5;have H':=zA H;clear H;go_wp2;go_meet
     case rel=>exact ⟨_,(decide ((rd l0 0) < 224)),(by rfl),H',⟨by omega⟩,by exact Drawn0.refl _⟩
    ·rw [if_neg c5] at H;have c5b0 : decide (192 ≤ (rd l0 0)) = false:=zD c5;clear c5;have H':=zA H;clear H;go_wp2;go_meet
     case rel=>exact ⟨_,(false),(by rfl),H',⟨by omega⟩,by exact Drawn0.refl _⟩
   case rest =>
    clear HC4;(try clear p1);(try clear q1);(try clear hx1);(try clear qi1);(try clear c2);(try clear c2b0);(try clear c2b1);(try clear p2);(try clear p3);(try clear c5);(try clear c5b0);(try clear hx129_0);(try clear p129);(try clear q129);obtain ⟨kq,x14_3,rfl,HA,HJ3,⟨mc3,rfl⟩⟩:=hcut;cases kq with
   |zero=>exact absurd HA.out (by simp [repriseref1_whole.j0])
   |succ kj3 =>
     have H:=HA.out;clear HA;simp only [repriseref1_whole.j0] at H;by_cases c6 : x14_3 = true
     ·subst c6;have H1 : (repriseref1_whole.j3 kj3 l0 2 128 (wrap32 (Go.bits .and .u8 (rd l0 0) 31))) = some (r1,r2):=by rw [if_pos rfl] at H;exact H
      clear H;have H:=H1;clear H1;have H':=zA H;clear H;go_wp2;go_meet
      case rel=>exact ⟨_,(2),(128),(wrap32 (Go.bits .and .u8 (rd l0 0) 31)),(by rfl),(by rfl),(by rfl),H',⟨by have:=HJ3.out;omega⟩,by repeat (first|exact Drawn0.refl _|apply Drawn0.step)⟩
     ·replace c6:=Bool.eq_false_iff.mpr c6;subst c6;have H1 : (if (rd l0 0) ≥ 224 then (repriseref1_whole.j1 kj3 l0 (rd l0 0) 1 0 (wrap32 (rd l0 0)) (decide ((rd l0 0) < 240))) else (repriseref1_whole.j1 kj3 l0 (rd l0 0) 1 0 (wrap32 (rd l0 0)) false)) = some (r1,r2):=by rw [if_neg (show ¬ (false = true) by decide)] at H;exact H
      clear H;have H:=H1;clear H1;have HC7:=zA H;clear H;go_upto_region 5 with (fail)
      go_cut [24] (fun v24 wc=>∃ (kq : Nat) (x24_6 : Bool),v24 = .bool x24_6∧Aside0 (repriseref1_whole.j1 kq l0 (rd l0 0) 1 0 (wrap32 (rd l0 0)) x24_6 = some (r1,r2))∧Aside0 (kq ≤ kj3)∧Drawn0 w wc)
      case first =>
       have H:=HC7.out;clear HC7;by_cases c8 : (rd l0 0) ≥ 224
       ·rw [if_pos c8] at H;have c8b0 : decide (224 ≤ (rd l0 0)) = true:=zC c8;clear c8;have H':=zA H;clear H;go_wp2;go_meet
        case rel=>exact ⟨_,(decide ((rd l0 0) < 240)),(by rfl),H',⟨by have:=HJ3.out;omega⟩,by repeat (first|exact Drawn0.refl _|apply Drawn0.step)⟩
       ·rw [if_neg c8] at H;have c8b0 : decide (224 ≤ (rd l0 0)) = false:=zD c8;clear c8;have H':=zA H;clear H;go_wp2;go_meet
        case rel=>exact ⟨_,(false),(by rfl),H',⟨by have:=HJ3.out;omega⟩,by repeat (first|exact Drawn0.refl _|apply Drawn0.step)⟩
      case rest =>
       clear HC7;(try clear p1);(try clear q1);(try clear hx1);(try clear qi1);(try clear c2);(try clear c2b0);(try clear c2b1);(try clear p2);(try clear c3);(try clear p3);(try clear c5);(try clear c5b0);(try clear c6);(try clear c7);(try clear c8);(try clear c8b0);(try clear hx129_0);(try clear p1);(try clear p129);(try clear p2);(try clear p3);(try clear q1);(try clear q129);obtain ⟨kq,x24_6,rfl,HA,HJ6,⟨mc6,rfl⟩⟩:=hcut;cases kq with
      |zero=>exact absurd HA.out (by simp [repriseref1_whole.j1])
      |succ kj6 =>
        have H:=HA.out;clear HA;simp only [repriseref1_whole.j1] at H;by_cases c9 : x24_6 = true
        ·subst c9;have H1 : (repriseref1_whole.j3 kj6 l0 3 2048 (wrap32 (Go.bits .and .u8 (rd l0 0) 15))) = some (r1,r2):=by rw [if_pos rfl] at H;exact H
         clear H;have H:=H1;clear H1;have H':=zA H;clear H;go_wp2;go_meet
         case rel=>exact ⟨_,(3),(2048),(wrap32 (Go.bits .and .u8 (rd l0 0) 15)),(by rfl),(by rfl),(by rfl),H',⟨by have:=HJ3.out;have:=HJ6.out;omega⟩,by repeat (first|exact Drawn0.refl _|apply Drawn0.step)⟩
        ·replace c9:=Bool.eq_false_iff.mpr c9;subst c9;have H1 : (if (rd l0 0) ≥ 240 then (repriseref1_whole.j2 kj6 l0 (rd l0 0) 1 0 (wrap32 (rd l0 0)) (decide ((rd l0 0) < 248))) else (repriseref1_whole.j2 kj6 l0 (rd l0 0) 1 0 (wrap32 (rd l0 0)) false)) = some (r1,r2):=by rw [if_neg (show ¬ (false = true) by decide)] at H;exact H
         clear H;have H:=H1;clear H1;have HC10:=zA H;clear H;go_upto_region 7 with (fail)
         go_cut [34] (fun v34 wc=>∃ (kq : Nat) (x34_9 : Bool),v34 = .bool x34_9∧Aside0 (repriseref1_whole.j2 kq l0 (rd l0 0) 1 0 (wrap32 (rd l0 0)) x34_9 = some (r1,r2))∧Aside0 (kq ≤ kj6)∧Drawn0 w wc)
         case first =>
          have H:=HC10.out;clear HC10;by_cases c11 : (rd l0 0) ≥ 240
          ·rw [if_pos c11] at H;have c11b0 : decide (240 ≤ (rd l0 0)) = true:=zC c11;clear c11;have H':=zA H;clear H;go_wp2;go_meet
           case rel=>exact ⟨_,(decide ((rd l0 0) < 248)),(by rfl),H',⟨by have:=HJ3.out;have:=HJ6.out;omega⟩,by repeat (first|exact Drawn0.refl _|apply Drawn0.step)⟩
          ·rw [if_neg c11] at H;have c11b0 : decide (240 ≤ (rd l0 0)) = false:=zD c11;clear c11;have H':=zA H;clear H;go_wp2;go_meet
           case rel=>exact ⟨_,(false),(by rfl),H',⟨by have:=HJ3.out;have:=HJ6.out;omega⟩,by repeat (first|exact Drawn0.refl _|apply Drawn0.step)⟩
         case rest =>
          clear HC10;(try clear c1);(try clear p1);(try clear q1);(try clear hx1);(try clear qi1);(try clear c2);(try clear c2b0);(try clear c2b1);(try clear p2);(try clear c3);(try clear p3);(try clear c5);(try clear c5b0);(try clear c6);(try clear c7);(try clear c8);(try clear c8b0);(try clear c9);(try clear c11);(try clear c11b0);(try clear hx129_0);(try clear p1);(try clear p129);(try clear p2);(try clear p3);(try clear q1);(try clear q129);obtain ⟨kq,x34_9,rfl,HA,HJ9,⟨mc9,rfl⟩⟩:=hcut;cases kq with
         |zero=>exact absurd HA.out (by simp [repriseref1_whole.j2])
         |succ kj9 =>
           have H:=HA.out;clear HA;simp only [repriseref1_whole.j2] at H;by_cases c12 : x34_9 = true
           ·subst c12;have H1 : (repriseref1_whole.j3 kj9 l0 4 65536 (wrap32 (Go.bits .and .u8 (rd l0 0) 7))) = some (r1,r2):=by rw [if_pos rfl] at H;exact H
            clear H;have H:=H1;clear H1;have H':=zA H;clear H;go_wp2;go_meet
            case rel=>exact ⟨_,(4),(65536),(wrap32 (Go.bits .and .u8 (rd l0 0) 7)),(by rfl),(by rfl),(by rfl),H',⟨by have:=HJ3.out;have:=HJ6.out;have:=HJ9.out;omega⟩,by repeat (first|exact Drawn0.refl _|apply Drawn0.step)⟩
           ·replace c12:=Bool.eq_false_iff.mpr c12;subst c12;have H1 : (if (rd l0 0) ≥ 128 then (some (0,false)) else (repriseref1_whole.j3 kj9 l0 1 0 (wrap32 (rd l0 0)))) = some (r1,r2):=by rw [if_neg (show ¬ (false = true) by decide)] at H;exact H
            clear H;have H:=H1;clear H1;by_cases c13 : (rd l0 0) ≥ 128
            ·rw [if_pos c13] at H;have c13b0 : decide (128 ≤ (rd l0 0)) = true:=zC c13;clear c13;simp only [Option.some.injEq,Prod.mk.injEq] at H;obtain ⟨rfl,rfl⟩:=H;go_wp2;go_ret2;exact ⟨by rfl,by repeat (first|exact Drawn0.refl _|apply Drawn0.step)⟩
            ·rw [if_neg c13] at H;have c13b0 : decide (128 ≤ (rd l0 0)) = false:=zD c13;clear c13;have H':=zA H;clear H;go_wp2;go_meet
             case rel=>exact ⟨_,(1),(0),((wrap32 (rd l0 0))),(by rfl),(by rfl),(by rfl),H',⟨by have:=HJ3.out;have:=HJ6.out;have:=HJ9.out;omega⟩,by repeat (first|exact Drawn0.refl _|apply Drawn0.step)⟩
  case rest =>
   clear HC3;(try clear c1);(try clear p1);(try clear q1);(try clear hx1);(try clear qi1);(try clear c2);(try clear c2b0);(try clear c2b1);(try clear p2);(try clear c3);(try clear p3);(try clear c5);(try clear c5b0);(try clear c6);(try clear c7);(try clear c8);(try clear c8b0);(try clear c9);(try clear c11);(try clear c11b0);(try clear c12);(try clear p12);(try clear q12);(try clear hx12);(try clear qi12);(try clear c13);(try clear c13b0);(try clear hx129_0);(try clear p1);(try clear p129);(try clear p2);(try clear p3);(try clear q1);(try clear q129);obtain ⟨kq,x5_2,x6_2,x7_2,rfl,rfl,rfl,HA,HJ2,⟨mc2,rfl⟩⟩:=hcut;cases kq with
  |zero=>exact absurd HA.out (by simp [repriseref1_whole.j3])
  |succ kj2 =>
    have H:=HA.out;clear HA;simp only [repriseref1_whole.j3] at H;by_cases c14 : (l0.length : Int) = x5_2
    ·rw [if_pos c14] at H;have c14b0 : ((l0.length : Int) == x5_2) = true:=beq_iff_eq.mpr c14;have c14b1 : ((l0.length : Int) != x5_2) = false:=bne_eq_false_iff_eq.mpr c14;clear c14;have H':=zA H;clear H;go_wp2;go_loopg [7,8] kj2 (fun kq v7 v8 w'=>∃ (x7_2 : Int) (x8_2 : Int),v7 = .int .i32 x7_2∧v8 = .int .i64 x8_2∧Aside0 (repriseref1_whole.l0 kq l0 x5_2 x6_2 x7_2 x8_2 = some (r1,r2))∧Aside0 (kq ≤ kj2)∧Drawn0 w w')
     case atStart=>exact ⟨(x7_2),(1),(by rfl),(by rfl),H',⟨Nat.le_refl _⟩,by repeat (first|exact Drawn0.refl _|apply Drawn0.step)⟩
     case round =>
      clear H';(try clear c1);(try clear p1);(try clear q1);(try clear hx1);(try clear qi1);(try clear c2);(try clear c2b0);(try clear c2b1);(try clear p2);(try clear c3);(try clear p3);(try clear c5);(try clear c5b0);(try clear c6);(try clear c7);(try clear c8);(try clear c8b0);(try clear c9);(try clear c11);(try clear c11b0);(try clear c12);(try clear p12);(try clear q12);(try clear hx12);(try clear qi12);(try clear c13);(try clear c13b0);(try clear c14);(try clear c14b0);(try clear c14b1);(try clear hx129_0);(try clear p1);(try clear p12);(try clear p129);(try clear p2);(try clear p3);(try clear q1);(try clear q12);(try clear q129);obtain ⟨x7_2,x8_2,rfl,rfl,HA,HK2,⟨m2,rfl⟩⟩:=hrel;cases gk with
     |zero=>exact absurd HA.out (by simp [repriseref1_whole.l0])
     |succ k2 =>
       have H:=HA.out;clear HA;simp only [repriseref1_whole.l0] at H;by_cases c15 : x8_2 < x5_2
       ·rw [if_pos c15] at H;have c15b0 : decide (x8_2 < x5_2) = true:=zC c15;clear c15;by_cases c16 : 0 ≤ x8_2
        ·rw [if_pos c16] at H;have c16b0 : decide (0 ≤ x8_2) = true:=zC c16;clear c16;by_cases c17 : x8_2 < (l0.length : Int)
         ·rw [if_pos c17] at H;have c17b0 : decide (x8_2 < (l0.length : Int)) = true:=zC c17;clear c17;by_cases c18 : (Go.bits .and .u8 (rd l0 x8_2) 192) = 128
          ·rw [if_pos c18] at H;have c18b0 : ((Go.bits .and .u8 (rd l0 x8_2) 192) == 128) = true:=beq_iff_eq.mpr c18;have c18b1 : ((Go.bits .and .u8 (rd l0 x8_2) 192) != 128) = false:=bne_eq_false_iff_eq.mpr c18;clear c18;have H':=zA H;clear H;have p130 : 0 ≤ (x8_2 : Int):=od;have q130 : x8_2 < (l0.length : Int):=od;obtain ⟨ad130,e130,hx130_0⟩:=Kd.at_int HR0.out x8_2 p130 q130;obtain rfl : ad129 = ad130:=(by injection e130);replace p130:=eq_true p130;replace q130:=eq_true q130;have p131 : 0 ≤ (x8_2 : Int):=od;have q131 : x8_2 < (l0.length : Int):=od;obtain ⟨ad131,e131,hx131_0⟩:=Kd.at_int HR0.out x8_2 p131 q131;obtain rfl : ad129 = ad131:=(by injection e131);replace p131:=eq_true p131;replace q131:=eq_true q131;go_wp2;go_roundg k2
           case measure=>have:=HJ2.out;have:=HK2.out;omega
           case rel=>exact ⟨(Go.bits .or .i32 (wrap32 (x7_2 * 64)) (wrap32 (Go.bits .and .u8 (rd l0 x8_2) 63))),(wrap64 (x8_2 + 1)),(by rfl),(by rfl),H',⟨by have:=HJ2.out;have:=HK2.out;omega⟩,by repeat (first|exact Drawn0.refl _|apply Drawn0.step)⟩
          ·rw [if_neg c18] at H;have c18b0 : ((Go.bits .and .u8 (rd l0 x8_2) 192) == 128) = false:=beq_eq_false_iff_ne.mpr c18;have c18b1 : ((Go.bits .and .u8 (rd l0 x8_2) 192) != 128) = true:=bne_iff_ne.mpr c18;simp only [Option.some.injEq,Prod.mk.injEq] at H;obtain ⟨rfl,rfl⟩:=H;have p130 : 0 ≤ (x8_2 : Int):=od;have q130 : x8_2 < (l0.length : Int):=od;obtain ⟨ad130,e130,hx130_0⟩:=Kd.at_int HR0.out x8_2 p130 q130;obtain rfl : ad129 = ad130:=(by injection e130);replace p130:=eq_true p130;replace q130:=eq_true q130;go_wp2;go_ret2;exact ⟨by rfl,by repeat (first|exact Drawn0.refl _|apply Drawn0.step)⟩
         ·rw [if_neg c17] at H;exact absurd H (by simp)
        ·rw [if_neg c16] at H;exact absurd H (by simp)
       ·rw [if_neg c15] at H;have c15b0 : decide (x8_2 < x5_2) = false:=zD c15;clear c15;by_cases c19 : x7_2 ≥ x6_2
        ·rw [if_pos c19] at H;have c19b0 : decide (x6_2 ≤ x7_2) = true:=zC c19;clear c19;replace H:=Option.bind_eq_some_iff.mp H;obtain ⟨t132,A200,H⟩:=H;replace H : (some (x7_2,t132)) = some (r1,r2):=H;have A20:=zA A200;clear A200;simp only [Option.some.injEq,Prod.mk.injEq] at H;obtain ⟨rfl,rfl⟩:=H;go_wp2_with ((go_at_call 48;(with_reducible refine (repriseref1_May.calls x7_2 t132 _ A20.out).mono ?_);rintro e w' ⟨rfl,⟨nd,rfl⟩⟩));go_ret2;exact ⟨by rfl,by repeat (first|exact Drawn0.refl _|apply Drawn0.step)⟩
        ·rw [if_neg c19] at H;have c19b0 : decide (x6_2 ≤ x7_2) = false:=zD c19;clear c19;simp only [Option.some.injEq,Prod.mk.injEq] at H;obtain ⟨rfl,rfl⟩:=H;go_wp2;go_ret2;exact ⟨by rfl,by repeat (first|exact Drawn0.refl _|apply Drawn0.step)⟩
    ·rw [if_neg c14] at H;have c14b0 : ((l0.length : Int) == x5_2) = false:=beq_eq_false_iff_ne.mpr c14;have c14b1 : ((l0.length : Int) != x5_2) = true:=bne_iff_ne.mpr c14;simp only [Option.some.injEq,Prod.mk.injEq] at H;obtain ⟨rfl,rfl⟩:=H;go_wp2;go_ret2;exact ⟨by rfl,by repeat (first|exact Drawn0.refl _|apply Drawn0.step)⟩
 ·rw [if_neg c2] at H;exact absurd H (by simp)
end Go.Proofs.Ytooageeehallbaa.QRunsCut
namespace Go.Proofs.Ytooageeehallbaa.QRunsCut
open Go.RowKit Go.Proofs.YtooageeehallbaaW.PrintWords Go.Proofs.YtooageeehallbaaW.PrintLast Go.Proofs.YtooageeehallbaaW.PrintMore
attribute [local go_sem] max2_int min2_int max_two min_two max_three min_three max_four min_four 
set_option linter.unusedVariables false
set_option linter.unusedSimpArgs false
/-! ### repriseref1_in: function 80 -/
def repriseref1_in.f (a0 : Int) (a1 : Int) (a2 : Int) : Option (Bool):=if a0 ≥ a1 then (some (decide (a0 ≤ a2))) else (some false)
set_option maxHeartbeats 8000000 in
set_option maxRecDepth 100000 in
theorem repriseref1_in.calls (a0 : Int) (a1 : Int) (a2 : Int) (r : Bool) (w : World) (h : repriseref1_in.f a0 a1 a2 = some r) :
 Calls Try.prog 80 #[.int .i32 a0,.int .i32 a1,.int .i32 a2] w fun e w'=>e = .returned (.bool r)∧Drawn0 w w':=by
 have H : (if a0 ≥ a1 then (some (decide (a0 ≤ a2))) else (some false)) = some r:=h;clear h;by_cases c4 : a0 ≥ a1
 ·rw [if_pos c4] at H;have c4b0 : decide (a1 ≤ a0) = true:=zC c4;clear c4;obtain rfl:=zY H;go_enter Try.func80,Try.ntmps80
  go_wp2;go_ret;exact ⟨by first|rfl|(simp;done)|(simp [*];done),by repeat (first|exact Drawn0.refl _|apply Drawn0.step)⟩
 ·rw [if_neg c4] at H;have c4b0 : decide (a1 ≤ a0) = false:=zD c4;clear c4;obtain rfl:=zY H;go_enter Try.func80,Try.ntmps80
  go_wp2;go_ret;exact ⟨by first|rfl|(simp;done)|(simp [*];done),by repeat (first|exact Drawn0.refl _|apply Drawn0.step)⟩
end Go.Proofs.Ytooageeehallbaa.QRunsCut
namespace Go.Proofs.Ytooageeehallbaa
open Go Go.RowKit Go.Proofs.YtooageeehallbaaW.PrintWords Go.Proofs.YtooageeehallbaaW.PrintLast Go.Proofs.YtooageeehallbaaW.PrintMore
abbrev zG := @gate_dst
end Go.Proofs.Ytooageeehallbaa
namespace Go.Proofs.Ytooageeehallbaa.QRunsCut
open Go.RowKit Go.Proofs.YtooageeehallbaaW.PrintWords Go.Proofs.YtooageeehallbaaW.PrintLast Go.Proofs.YtooageeehallbaaW.PrintMore
attribute [local go_sem] max2_int min2_int max_two min_two max_three min_three max_four min_four 
set_option linter.unusedVariables false
set_option linter.unusedSimpArgs false
/-! ### repriseref1_Width: function 74 -/
mutual
def repriseref1_Width.j0 : Nat → Int → Bool → Option (Int)
|0,_,_=>none
|k + 1,x0,x27=>if x27 = true then (some 0) else (repriseref1_Width.l0 k x0 (([4352,4447,11904,12350,12353,13311,13312,19903,19968,40959,40960,42191,44032,55203,63744,64255,65072,65135,65280,65376,65504,65510,127744,128591,129280,129535,131072,196605,196608,262141] : List Int)) 0)
def repriseref1_Width.l0 : Nat → Int → List Int → Int → Option (Int)
|0,_,_,_=>none
|k + 1,x0,x3,x4=>if x4 < (x3.length : Int) then (if 0 ≤ x4 then (if 0 ≤ (wrap64 (x4 + 1)) then (if (wrap64 (x4 + 1)) < (x3.length : Int) then ((repriseref1_in.f x0 (rd x3 x4) (rd x3 (wrap64 (x4 + 1)))).bind fun t341=>(if t341 = true then (some 2) else (repriseref1_Width.l0 k x0 x3 (wrap64 (x4 + 2))))) else (none)) else (none)) else (none)) else (some 1)
end
def repriseref1_Width.f (k : Nat) (a0 : Int) : Option (Int):=(repriseref1_May.f a0).bind fun t331=>(if t331 = true then (if a0 < 32 then (repriseref1_Width.j0 k a0 true) else ((repriseref1_in.f a0 127 159).bind fun t332=>(if t332 = true then (repriseref1_Width.j0 k a0 true) else ((repriseref1_in.f a0 768 879).bind fun t333=>(if t333 = true then (repriseref1_Width.j0 k a0 true) else ((repriseref1_in.f a0 8203 8207).bind fun t334=>(if t334 = true then (repriseref1_Width.j0 k a0 true) else ((repriseref1_in.f a0 65024 65039).bind fun t335=>(repriseref1_Width.j0 k a0 t335))))))))) else (repriseref1_Width.j0 k a0 true))
theorem repriseref1_Width.mono_l : ∀ k,(∀ y0 y1,LeO (repriseref1_Width.j0 k y0 y1) (repriseref1_Width.j0 (k + 1) y0 y1))∧(∀ y0 y1 y2,LeO (repriseref1_Width.l0 k y0 y1 y2) (repriseref1_Width.l0 (k + 1) y0 y1 y2))
|0=>⟨fun _ _ r h=>by simp [repriseref1_Width.j0] at h,fun _ _ _ r h=>by simp [repriseref1_Width.l0] at h⟩
|k + 1=>by
  obtain ⟨ih0,ih1⟩:=repriseref1_Width.mono_l k;refine ⟨?_,?_⟩
  ·intro y0 y1;unfold repriseref1_Width.j0;repeat' first
  |(with_reducible exact ih0 _ _)
  |(with_reducible exact ih1 _ _ _)
  |(with_reducible exact LeO.refl _)
  |(with_reducible exact LeO.none _)
  |(with_reducible refine LeO.ite ?_ ?_)
  |(with_reducible refine LeO.bind ?_ (fun _=>?_))
  |exact ih0 _ _
  |exact ih1 _ _ _
  |exact LeO.none _
  |refine LeO.ite ?_ ?_
  |refine LeO.bind ?_ (fun _=>?_)
  ·intro y0 y1 y2;unfold repriseref1_Width.l0;repeat' first
  |(with_reducible exact ih0 _ _)
  |(with_reducible exact ih1 _ _ _)
  |(with_reducible exact LeO.refl _)
  |(with_reducible exact LeO.none _)
  |(with_reducible refine LeO.ite ?_ ?_)
  |(with_reducible refine LeO.bind ?_ (fun _=>?_))
  |exact ih0 _ _
  |exact ih1 _ _ _
  |exact LeO.none _
  |refine LeO.ite ?_ ?_
  |refine LeO.bind ?_ (fun _=>?_)
theorem repriseref1_Width.mono : ∀ a0 k,LeO (repriseref1_Width.f k a0) (repriseref1_Width.f (k + 1) a0):=by
 intro a0 k;obtain ⟨ih0,ih1⟩:=repriseref1_Width.mono_l k;unfold repriseref1_Width.f;repeat' first
 |(with_reducible exact ih0 _ _)
 |(with_reducible exact ih1 _ _ _)
 |(with_reducible exact LeO.refl _)
 |(with_reducible exact LeO.none _)
 |(with_reducible refine LeO.ite ?_ ?_)
 |(with_reducible refine LeO.bind ?_ (fun _=>?_))
 |exact ih0 _ _
 |exact ih1 _ _ _
 |exact LeO.none _
 |refine LeO.ite ?_ ?_
 |refine LeO.bind ?_ (fun _=>?_)
set_option maxHeartbeats 8000000 in
set_option maxRecDepth 100000 in
theorem repriseref1_Width.calls (k : Nat) (a0 : Int) (r : Int) (w : World) (h : repriseref1_Width.f k a0 = some r) :
 Calls Try.prog 74 #[.int .i32 a0] w fun e w'=>e = .returned (.int .i64 r)∧Below w.heap.size w w':=by
 have HB:=zA (zE w.heap.size w);have H : ((repriseref1_May.f a0).bind fun t331=>(if t331 = true then (if a0 < 32 then (repriseref1_Width.j0 k a0 true) else ((repriseref1_in.f a0 127 159).bind fun t332=>(if t332 = true then (repriseref1_Width.j0 k a0 true) else ((repriseref1_in.f a0 768 879).bind fun t333=>(if t333 = true then (repriseref1_Width.j0 k a0 true) else ((repriseref1_in.f a0 8203 8207).bind fun t334=>(if t334 = true then (repriseref1_Width.j0 k a0 true) else ((repriseref1_in.f a0 65024 65039).bind fun t335=>(repriseref1_Width.j0 k a0 t335))))))))) else (repriseref1_Width.j0 k a0 true))) = some r:=h;clear h;have HC2:=zA H;clear H;go_enter Try.func74,Try.ntmps74
 go_upto_region 1 with (fail)
 repeat (go_quiet (fail);go_upto_region 1 with (fail))
 go_cut [27] (fun v27 wc=>∃ (kq : Nat) (x27_1 : Bool),v27 = .bool x27_1∧Aside0 (repriseref1_Width.j0 kq a0 x27_1 = some r)∧Aside0 (kq ≤ k)∧Aside0 (Below w.heap.size w wc))
 case first =>
  have H:=HC2.out;clear HC2;replace H:=Option.bind_eq_some_iff.mp H;obtain ⟨t331,A30,H⟩:=H;replace H : (if t331 = true then (if a0 < 32 then (repriseref1_Width.j0 k a0 true) else ((repriseref1_in.f a0 127 159).bind fun t332=>(if t332 = true then (repriseref1_Width.j0 k a0 true) else ((repriseref1_in.f a0 768 879).bind fun t333=>(if t333 = true then (repriseref1_Width.j0 k a0 true) else ((repriseref1_in.f a0 8203 8207).bind fun t334=>(if t334 = true then (repriseref1_Width.j0 k a0 true) else ((repriseref1_in.f a0 65024 65039).bind fun t335=>(repriseref1_Width.j0 k a0 t335))))))))) else (repriseref1_Width.j0 k a0 true)) = some r:=H;have A3:=zA A30;clear A30;by_cases c4 : t331 = true
  ·subst c4;have H1 : (if a0 < 32 then (repriseref1_Width.j0 k a0 true) else ((repriseref1_in.f a0 127 159).bind fun t332=>(if t332 = true then (repriseref1_Width.j0 k a0 true) else ((repriseref1_in.f a0 768 879).bind fun t333=>(if t333 = true then (repriseref1_Width.j0 k a0 true) else ((repriseref1_in.f a0 8203 8207).bind fun t334=>(if t334 = true then (repriseref1_Width.j0 k a0 true) else ((repriseref1_in.f a0 65024 65039).bind fun t335=>(repriseref1_Width.j0 k a0 t335))))))))) = some r:=by rw [if_pos rfl] at H;exact H
   clear H;have H:=H1;clear H1;by_cases c5 : a0 < 32
   ·rw [if_pos c5] at H;have c5b0 : decide (a0 < 32) = true:=zC c5;clear c5;(first|rw [c5b0]|(simp only [i64_w,i32_w];rw [c5b0])|skip)
    have H':=zA H;clear H;go_wp2_with (first|(go_at_call 48;(with_reducible refine (repriseref1_May.calls a0 true _ A3.out).mono ?_);rintro e w' ⟨rfl,⟨nd,rfl⟩⟩));repeat (go_quiet (first|(go_at_call 48;(with_reducible refine (repriseref1_May.calls a0 true _ A3.out).mono ?_);rintro e w' ⟨rfl,⟨nd,rfl⟩⟩;(try first|exact ⟨rfl,_,World.drewN_drewN _ _ _⟩|exact ⟨rfl,_,Eq.trans (World.drewN_drewN _ _ _) (congrArg (World.drewN _) (Nat.add_assoc _ _ _))⟩)));try go_wp2_with (fail))
    go_meet
    case rel=>exact ⟨_,(true),(by first|rfl|(simp;done)|(simp [*];done)),H',⟨by first|omega|exact Nat.le_refl _⟩,⟨by repeat (first|(with_reducible first|exact HB.out|apply below_alloc|apply pw_below_drewN|apply below_drew1)|exact HB.out)⟩⟩
   ·rw [if_neg c5] at H;have c5b0 : decide (a0 < 32) = false:=zD c5;clear c5;(first|rw [c5b0]|(simp only [i64_w,i32_w];rw [c5b0])|skip)
    replace H:=Option.bind_eq_some_iff.mp H;obtain ⟨t332,A60,H⟩:=H;replace H : (if t332 = true then (repriseref1_Width.j0 k a0 true) else ((repriseref1_in.f a0 768 879).bind fun t333=>(if t333 = true then (repriseref1_Width.j0 k a0 true) else ((repriseref1_in.f a0 8203 8207).bind fun t334=>(if t334 = true then (repriseref1_Width.j0 k a0 true) else ((repriseref1_in.f a0 65024 65039).bind fun t335=>(repriseref1_Width.j0 k a0 t335))))))) = some r:=H;have A6:=zA A60;clear A60;by_cases c7 : t332 = true
    ·subst c7;have H1 : (repriseref1_Width.j0 k a0 true) = some r:=by rw [if_pos rfl] at H;exact H
     clear H;have H:=H1;clear H1;have H':=zA H;clear H;go_wp2_with (first|(go_at_call 48;(with_reducible refine (repriseref1_May.calls a0 true _ A3.out).mono ?_);rintro e w' ⟨rfl,⟨nd,rfl⟩⟩)|(go_at_call 80;(with_reducible refine (repriseref1_in.calls a0 127 159 true _ A6.out).mono ?_);rintro e w' ⟨rfl,⟨nd,rfl⟩⟩));repeat (go_quiet (first|(go_at_call 48;(with_reducible refine (repriseref1_May.calls a0 true _ A3.out).mono ?_);rintro e w' ⟨rfl,⟨nd,rfl⟩⟩;(try first|exact ⟨rfl,_,World.drewN_drewN _ _ _⟩|exact ⟨rfl,_,Eq.trans (World.drewN_drewN _ _ _) (congrArg (World.drewN _) (Nat.add_assoc _ _ _))⟩))|(go_at_call 80;(with_reducible refine (repriseref1_in.calls a0 127 159 true _ A6.out).mono ?_);rintro e w' ⟨rfl,⟨nd,rfl⟩⟩;(try first|exact ⟨rfl,_,World.drewN_drewN _ _ _⟩|exact ⟨rfl,_,Eq.trans (World.drewN_drewN _ _ _) (congrArg (World.drewN _) (Nat.add_assoc _ _ _))⟩)));try go_wp2_with (fail))
     go_meet
     case rel=>exact ⟨_,(true),(by first|rfl|(simp;done)|(simp [*];done)),H',⟨by first|omega|exact Nat.le_refl _⟩,⟨by repeat (first|(with_reducible first|exact HB.out|apply below_alloc|apply pw_below_drewN|apply below_drew1)|exact HB.out)⟩⟩
    ·replace c7:=Bool.eq_false_iff.mpr c7;subst c7;have H1 : ((repriseref1_in.f a0 768 879).bind fun t333=>(if t333 = true then (repriseref1_Width.j0 k a0 true) else ((repriseref1_in.f a0 8203 8207).bind fun t334=>(if t334 = true then (repriseref1_Width.j0 k a0 true) else ((repriseref1_in.f a0 65024 65039).bind fun t335=>(repriseref1_Width.j0 k a0 t335)))))) = some r:=by rw [if_neg (show ¬ (false = true) by decide)] at H;exact H
     clear H;have H:=H1;clear H1;replace H:=Option.bind_eq_some_iff.mp H;obtain ⟨t333,A80,H⟩:=H;replace H : (if t333 = true then (repriseref1_Width.j0 k a0 true) else ((repriseref1_in.f a0 8203 8207).bind fun t334=>(if t334 = true then (repriseref1_Width.j0 k a0 true) else ((repriseref1_in.f a0 65024 65039).bind fun t335=>(repriseref1_Width.j0 k a0 t335))))) = some r:=H;have A8:=zA A80;clear A80;by_cases c9 : t333 = true
     ·subst c9;have H1 : (repriseref1_Width.j0 k a0 true) = some r:=by rw [if_pos rfl] at H;exact H
      clear H;have H:=H1;clear H1;have H':=zA H;clear H;go_wp2_with (first|(go_at_call 48;(with_reducible refine (repriseref1_May.calls a0 true _ A3.out).mono ?_);rintro e w' ⟨rfl,⟨nd,rfl⟩⟩)|(go_at_call 80;(with_reducible refine (repriseref1_in.calls a0 127 159 false _ A6.out).mono ?_);rintro e w' ⟨rfl,⟨nd,rfl⟩⟩)|(go_at_call 80;(with_reducible refine (repriseref1_in.calls a0 768 879 true _ A8.out).mono ?_);rintro e w' ⟨rfl,⟨nd,rfl⟩⟩));repeat (go_quiet (first|(go_at_call 48;(with_reducible refine (repriseref1_May.calls a0 true _ A3.out).mono ?_);rintro e w' ⟨rfl,⟨nd,rfl⟩⟩;(try first|exact ⟨rfl,_,World.drewN_drewN _ _ _⟩|exact ⟨rfl,_,Eq.trans (World.drewN_drewN _ _ _) (congrArg (World.drewN _) (Nat.add_assoc _ _ _))⟩))|(go_at_call 80;(with_reducible refine (repriseref1_in.calls a0 127 159 false _ A6.out).mono ?_);rintro e w' ⟨rfl,⟨nd,rfl⟩⟩;(try first|exact ⟨rfl,_,World.drewN_drewN _ _ _⟩|exact ⟨rfl,_,Eq.trans (World.drewN_drewN _ _ _) (congrArg (World.drewN _) (Nat.add_assoc _ _ _))⟩))|(go_at_call 80;(with_reducible refine (repriseref1_in.calls a0 768 879 true _ A8.out).mono ?_);rintro e w' ⟨rfl,⟨nd,rfl⟩⟩;(try first|exact ⟨rfl,_,World.drewN_drewN _ _ _⟩|exact ⟨rfl,_,Eq.trans (World.drewN_drewN _ _ _) (congrArg (World.drewN _) (Nat.add_assoc _ _ _))⟩)));try go_wp2_with (fail))
      go_meet
      case rel=>exact ⟨_,(true),(by first|rfl|(simp;done)|(simp [*];done)),H',⟨by first|omega|exact Nat.le_refl _⟩,⟨by repeat (first|(with_reducible first|exact HB.out|apply below_alloc|apply pw_below_drewN|apply below_drew1)|exact HB.out)⟩⟩
     ·replace c9:=Bool.eq_false_iff.mpr c9;subst c9;have H1 : ((repriseref1_in.f a0 8203 8207).bind fun t334=>(if t334 = true then (repriseref1_Width.j0 k a0 true) else ((repriseref1_in.f a0 65024 65039).bind fun t335=>(repriseref1_Width.j0 k a0 t335)))) = some r:=by rw [if_neg (show ¬ (false = true) by decide)] at H;exact H
      clear H;have H:=H1;clear H1;replace H:=Option.bind_eq_some_iff.mp H;obtain ⟨t334,A100,H⟩:=H;replace H : (if t334 = true then (repriseref1_Width.j0 k a0 true) else ((repriseref1_in.f a0 65024 65039).bind fun t335=>(repriseref1_Width.j0 k a0 t335))) = some r:=H;have A10:=zA A100;clear A100;by_cases c11 : t334 = true
      ·subst c11;have H1 : (repriseref1_Width.j0 k a0 true) = some r:=by rw [if_pos rfl] at H;exact H
       clear H;have H:=H1;clear H1;have H':=zA H;clear H;go_wp2_with (first|(go_at_call 48;(with_reducible refine (repriseref1_May.calls a0 true _ A3.out).mono ?_);rintro e w' ⟨rfl,⟨nd,rfl⟩⟩)|(go_at_call 80;(with_reducible refine (repriseref1_in.calls a0 127 159 false _ A6.out).mono ?_);rintro e w' ⟨rfl,⟨nd,rfl⟩⟩)|(go_at_call 80;(with_reducible refine (repriseref1_in.calls a0 768 879 false _ A8.out).mono ?_);rintro e w' ⟨rfl,⟨nd,rfl⟩⟩)|(go_at_call 80;(with_reducible refine (repriseref1_in.calls a0 8203 8207 true _ A10.out).mono ?_);rintro e w' ⟨rfl,⟨nd,rfl⟩⟩));repeat (go_quiet (first|(go_at_call 48;(with_reducible refine (repriseref1_May.calls a0 true _ A3.out).mono ?_);rintro e w' ⟨rfl,⟨nd,rfl⟩⟩;(try first|exact ⟨rfl,_,World.drewN_drewN _ _ _⟩|exact ⟨rfl,_,Eq.trans (World.drewN_drewN _ _ _) (congrArg (World.drewN _) (Nat.add_assoc _ _ _))⟩))|(go_at_call 80;(with_reducible refine (repriseref1_in.calls a0 127 159 false _ A6.out).mono ?_);rintro e w' ⟨rfl,⟨nd,rfl⟩⟩;(try first|exact ⟨rfl,_,World.drewN_drewN _ _ _⟩|exact ⟨rfl,_,Eq.trans (World.drewN_drewN _ _ _) (congrArg (World.drewN _) (Nat.add_assoc _ _ _))⟩))|(go_at_call 80;(with_reducible refine (repriseref1_in.calls a0 768 879 false _ A8.out).mono ?_);rintro e w' ⟨rfl,⟨nd,rfl⟩⟩;(try first|exact ⟨rfl,_,World.drewN_drewN _ _ _⟩|exact ⟨rfl,_,Eq.trans (World.drewN_drewN _ _ _) (congrArg (World.drewN _) (Nat.add_assoc _ _ _))⟩))|(go_at_call 80;(with_reducible refine (repriseref1_in.calls a0 8203 8207 true _ A10.out).mono ?_);rintro e w' ⟨rfl,⟨nd,rfl⟩⟩;(try first|exact ⟨rfl,_,World.drewN_drewN _ _ _⟩|exact ⟨rfl,_,Eq.trans (World.drewN_drewN _ _ _) (congrArg (World.drewN _) (Nat.add_assoc _ _ _))⟩)));try go_wp2_with (fail))
       go_meet
       case rel=>exact ⟨_,(true),(by first|rfl|(simp;done)|(simp [*];done)),H',⟨by first|omega|exact Nat.le_refl _⟩,⟨by repeat (first|(with_reducible first|exact HB.out|apply below_alloc|apply pw_below_drewN|apply below_drew1)|exact HB.out)⟩⟩
      ·replace c11:=Bool.eq_false_iff.mpr c11;subst c11;have H1 : ((repriseref1_in.f a0 65024 65039).bind fun t335=>(repriseref1_Width.j0 k a0 t335)) = some r:=by rw [if_neg (show ¬ (false = true) by decide)] at H;exact H
       clear H;have H:=H1;clear H1;replace H:=Option.bind_eq_some_iff.mp H;obtain ⟨t335,A120,H⟩:=H;replace H : (repriseref1_Width.j0 k a0 t335) = some r:=H;have A12:=zA A120;clear A120;have H':=zA H;clear H;go_wp2_with (first|(go_at_call 48;(with_reducible refine (repriseref1_May.calls a0 true _ A3.out).mono ?_);rintro e w' ⟨rfl,⟨nd,rfl⟩⟩)|(go_at_call 80;(with_reducible refine (repriseref1_in.calls a0 127 159 false _ A6.out).mono ?_);rintro e w' ⟨rfl,⟨nd,rfl⟩⟩)|(go_at_call 80;(with_reducible refine (repriseref1_in.calls a0 768 879 false _ A8.out).mono ?_);rintro e w' ⟨rfl,⟨nd,rfl⟩⟩)|(go_at_call 80;(with_reducible refine (repriseref1_in.calls a0 8203 8207 false _ A10.out).mono ?_);rintro e w' ⟨rfl,⟨nd,rfl⟩⟩)|(go_at_call 80;(with_reducible refine (repriseref1_in.calls a0 65024 65039 t335 _ A12.out).mono ?_);rintro e w' ⟨rfl,⟨nd,rfl⟩⟩));repeat (go_quiet (first|(go_at_call 48;(with_reducible refine (repriseref1_May.calls a0 true _ A3.out).mono ?_);rintro e w' ⟨rfl,⟨nd,rfl⟩⟩;(try first|exact ⟨rfl,_,World.drewN_drewN _ _ _⟩|exact ⟨rfl,_,Eq.trans (World.drewN_drewN _ _ _) (congrArg (World.drewN _) (Nat.add_assoc _ _ _))⟩))|(go_at_call 80;(with_reducible refine (repriseref1_in.calls a0 127 159 false _ A6.out).mono ?_);rintro e w' ⟨rfl,⟨nd,rfl⟩⟩;(try first|exact ⟨rfl,_,World.drewN_drewN _ _ _⟩|exact ⟨rfl,_,Eq.trans (World.drewN_drewN _ _ _) (congrArg (World.drewN _) (Nat.add_assoc _ _ _))⟩))|(go_at_call 80;(with_reducible refine (repriseref1_in.calls a0 768 879 false _ A8.out).mono ?_);rintro e w' ⟨rfl,⟨nd,rfl⟩⟩;(try first|exact ⟨rfl,_,World.drewN_drewN _ _ _⟩|exact ⟨rfl,_,Eq.trans (World.drewN_drewN _ _ _) (congrArg (World.drewN _) (Nat.add_assoc _ _ _))⟩))|(go_at_call 80;(with_reducible refine (repriseref1_in.calls a0 8203 8207 false _ A10.out).mono ?_);rintro e w' ⟨rfl,⟨nd,rfl⟩⟩;(try first|exact ⟨rfl,_,World.drewN_drewN _ _ _⟩|exact ⟨rfl,_,Eq.trans (World.drewN_drewN _ _ _) (congrArg (World.drewN _) (Nat.add_assoc _ _ _))⟩))|(go_at_call 80;(with_reducible refine (repriseref1_in.calls a0 65024 65039 t335 _ A12.out).mono ?_);rintro e w' ⟨rfl,⟨nd,rfl⟩⟩;(try first|exact ⟨rfl,_,World.drewN_drewN _ _ _⟩|exact ⟨rfl,_,Eq.trans (World.drewN_drewN _ _ _) (congrArg (World.drewN _) (Nat.add_assoc _ _ _))⟩)));try go_wp2_with (fail))
       go_meet
       case rel=>exact ⟨_,(t335),(by first|rfl|(simp;done)|(simp [*];done)),H',⟨by first|omega|exact Nat.le_refl _⟩,⟨by repeat (first|(with_reducible first|exact HB.out|apply below_alloc|apply pw_below_drewN|apply below_drew1)|exact HB.out)⟩⟩
  ·replace c4:=Bool.eq_false_iff.mpr c4;subst c4;have H1 : (repriseref1_Width.j0 k a0 true) = some r:=by rw [if_neg (show ¬ (false = true) by decide)] at H;exact H
   clear H;have H:=H1;clear H1;have H':=zA H;clear H;go_wp2_with (first|(go_at_call 48;(with_reducible refine (repriseref1_May.calls a0 false _ A3.out).mono ?_);rintro e w' ⟨rfl,⟨nd,rfl⟩⟩));repeat (go_quiet (first|(go_at_call 48;(with_reducible refine (repriseref1_May.calls a0 false _ A3.out).mono ?_);rintro e w' ⟨rfl,⟨nd,rfl⟩⟩;(try first|exact ⟨rfl,_,World.drewN_drewN _ _ _⟩|exact ⟨rfl,_,Eq.trans (World.drewN_drewN _ _ _) (congrArg (World.drewN _) (Nat.add_assoc _ _ _))⟩)));try go_wp2_with (fail))
   go_meet
   case rel=>exact ⟨_,(true),(by first|rfl|(simp;done)|(simp [*];done)),H',⟨by first|omega|exact Nat.le_refl _⟩,⟨by repeat (first|(with_reducible first|exact HB.out|apply below_alloc|apply pw_below_drewN|apply below_drew1)|exact HB.out)⟩⟩
 case rest =>
  clear HC2;(try clear c1);(try clear p2);(try clear c4);(try clear c5);(try clear c5b0);(try clear c7);(try clear c9);(try clear c11);obtain ⟨kq,x27_1,rfl,HA,HJ1,HB⟩:=hcut;cases kq with
 |zero=>exact absurd HA.out (by simp [repriseref1_Width.j0])
 |succ kj1 =>
   have H:=HA.out;clear HA;simp only [repriseref1_Width.j0] at H;by_cases c13 : x27_1 = true
   ·subst c13;have H1 : (some 0) = some r:=by rw [if_pos rfl] at H;exact H
    clear H;have H:=H1;clear H1;obtain rfl:=zY H;go_wp2;repeat (go_quiet (fail);try go_wp2)
    go_ret;exact ⟨by first|rfl|(simp [errW_none,errW_some] <;> rfl)|(simp [*,errW_none,errW_some] <;> rfl),by repeat (first|(with_reducible first|exact HB.out|apply below_alloc|apply pw_below_drewN|apply below_drew1)|exact HB.out)⟩
   ·replace c13:=Bool.eq_false_iff.mpr c13;subst c13;have H1 : (repriseref1_Width.l0 kj1 a0 (([4352,4447,11904,12350,12353,13311,13312,19903,19968,40959,40960,42191,44032,55203,63744,64255,65072,65135,65280,65376,65504,65510,127744,128591,129280,129535,131072,196605,196608,262141] : List Int)) 0) = some r:=by rw [if_neg (show ¬ (false = true) by decide)] at H;exact H
    clear H;have H:=H1;clear H1;obtain ⟨y336,hy336⟩ : ∃ y_ : List Int,y_ = (([4352,4447,11904,12350,12353,13311,13312,19903,19968,40959,40960,42191,44032,55203,63744,64255,65072,65135,65280,65376,65504,65510,127744,128591,129280,129535,131072,196605,196608,262141] : List Int)):=⟨_,rfl⟩;replace H : (repriseref1_Width.l0 kj1 a0 y336 0) = some r:=by first|(rw [hy336];with_reducible exact H)|(have H2_:=(zX _ _).symm.trans H;rw [hy336];with_reducible exact H2_)|(have H2_:=(zX _ _).symm.trans H;with_reducible exact H2_)|with_reducible exact H|(rw [hy336];exact H)|exact H
    have Ny336:=zA hy336;clear hy336;have H':=zA H;clear H;go_wp2_with (first|((with_reducible refine zG (N:=28) rfl ?_);refine Kd.R_lit (Kd.int .i32) _ 21 ?hg (N:=28) ?hd (xs:=([4352,4447,11904,12350,12353,13311,13312,19903,19968,40959,40960,42191,44032,55203,63744,64255,65072,65135,65280,65376,65504,65510,127744,128591,129280,129535,131072,196605,196608,262141] : List Int)) (inner:=[.int .i32 4352,.int .i32 4447,.int .i32 11904,.int .i32 12350,.int .i32 12353,.int .i32 13311,.int .i32 13312,.int .i32 19903,.int .i32 19968,.int .i32 40959,.int .i32 40960,.int .i32 42191,.int .i32 44032,.int .i32 55203,.int .i32 63744,.int .i32 64255,.int .i32 65072,.int .i32 65135,.int .i32 65280,.int .i32 65376,.int .i32 65504,.int .i32 65510,.int .i32 127744,.int .i32 128591,.int .i32 129280,.int .i32 129535,.int .i32 131072,.int .i32 196605,.int .i32 196608,.int .i32 262141]) (ok:=fun _=>True) (okp:=fun _=>True) ?hr ?hp (fun _ hk=>hk) trivial (zE _ _) (Nat.le_refl _) (by simp) ?_;(case hd=>rfl);(case hg=>rfl);(case hr=>first|(go_simp;done)|(go_simp;rfl));(case hp=>exact (Reps.one (show Kd.M (Kd.int .i32) _ _ _ 4352 [.int .i32 4352] from rfl) (Reps.one (show Kd.M (Kd.int .i32) _ _ _ 4447 [.int .i32 4447] from rfl) (Reps.one (show Kd.M (Kd.int .i32) _ _ _ 11904 [.int .i32 11904] from rfl) (Reps.one (show Kd.M (Kd.int .i32) _ _ _ 12350 [.int .i32 12350] from rfl) (Reps.one (show Kd.M (Kd.int .i32) _ _ _ 12353 [.int .i32 12353] from rfl) (Reps.one (show Kd.M (Kd.int .i32) _ _ _ 13311 [.int .i32 13311] from rfl) (Reps.one (show Kd.M (Kd.int .i32) _ _ _ 13312 [.int .i32 13312] from rfl) (Reps.one (show Kd.M (Kd.int .i32) _ _ _ 19903 [.int .i32 19903] from rfl) (Reps.one (show Kd.M (Kd.int .i32) _ _ _ 19968 [.int .i32 19968] from rfl) (Reps.one (show Kd.M (Kd.int .i32) _ _ _ 40959 [.int .i32 40959] from rfl) (Reps.one (show Kd.M (Kd.int .i32) _ _ _ 40960 [.int .i32 40960] from rfl) (Reps.one (show Kd.M (Kd.int .i32) _ _ _ 42191 [.int .i32 42191] from rfl) (Reps.one (show Kd.M (Kd.int .i32) _ _ _ 44032 [.int .i32 44032] from rfl) (Reps.one (show Kd.M (Kd.int .i32) _ _ _ 55203 [.int .i32 55203] from rfl) (Reps.one (show Kd.M (Kd.int .i32) _ _ _ 63744 [.int .i32 63744] from rfl) (Reps.one (show Kd.M (Kd.int .i32) _ _ _ 64255 [.int .i32 64255] from rfl) (Reps.one (show Kd.M (Kd.int .i32) _ _ _ 65072 [.int .i32 65072] from rfl) (Reps.one (show Kd.M (Kd.int .i32) _ _ _ 65135 [.int .i32 65135] from rfl) (Reps.one (show Kd.M (Kd.int .i32) _ _ _ 65280 [.int .i32 65280] from rfl) (Reps.one (show Kd.M (Kd.int .i32) _ _ _ 65376 [.int .i32 65376] from rfl) (Reps.one (show Kd.M (Kd.int .i32) _ _ _ 65504 [.int .i32 65504] from rfl) (Reps.one (show Kd.M (Kd.int .i32) _ _ _ 65510 [.int .i32 65510] from rfl) (Reps.one (show Kd.M (Kd.int .i32) _ _ _ 127744 [.int .i32 127744] from rfl) (Reps.one (show Kd.M (Kd.int .i32) _ _ _ 128591 [.int .i32 128591] from rfl) (Reps.one (show Kd.M (Kd.int .i32) _ _ _ 129280 [.int .i32 129280] from rfl) (Reps.one (show Kd.M (Kd.int .i32) _ _ _ 129535 [.int .i32 129535] from rfl) (Reps.one (show Kd.M (Kd.int .i32) _ _ _ 131072 [.int .i32 131072] from rfl) (Reps.one (show Kd.M (Kd.int .i32) _ _ _ 196605 [.int .i32 196605] from rfl) (Reps.one (show Kd.M (Kd.int .i32) _ _ _ 196608 [.int .i32 196608] from rfl) (Reps.one (show Kd.M (Kd.int .i32) _ _ _ 262141 [.int .i32 262141] from rfl) (Reps.none _ _))))))))))))))))))))))))))))))));intro v337 w14 ho15 hb hg_ hnew_;clear hg_ hnew_;(first|rw [← Ny336.out] at ho15|(simp only [Int.reduceToNat] at ho15;rw [← Ny336.out] at ho15));have n0_:=zA (Kd.R_lower ho15 (below_size (by repeat (first|(with_reducible first|exact HB.out|apply below_alloc|apply pw_below_drewN|apply below_drew1)|exact HB.out))));have n1_:=zA (below_step (by repeat (first|(with_reducible first|exact HB.out|apply below_alloc|apply pw_below_drewN|apply below_drew1)|exact HB.out)) hb);clear HB;have HO338:=n0_;have HB:=n1_;clear n0_ n1_;clear hb ho15));repeat (go_quiet (first|((with_reducible refine zG (N:=28) rfl ?_);refine Kd.R_lit (Kd.int .i32) _ 21 ?hg (N:=28) ?hd (xs:=([4352,4447,11904,12350,12353,13311,13312,19903,19968,40959,40960,42191,44032,55203,63744,64255,65072,65135,65280,65376,65504,65510,127744,128591,129280,129535,131072,196605,196608,262141] : List Int)) (inner:=[.int .i32 4352,.int .i32 4447,.int .i32 11904,.int .i32 12350,.int .i32 12353,.int .i32 13311,.int .i32 13312,.int .i32 19903,.int .i32 19968,.int .i32 40959,.int .i32 40960,.int .i32 42191,.int .i32 44032,.int .i32 55203,.int .i32 63744,.int .i32 64255,.int .i32 65072,.int .i32 65135,.int .i32 65280,.int .i32 65376,.int .i32 65504,.int .i32 65510,.int .i32 127744,.int .i32 128591,.int .i32 129280,.int .i32 129535,.int .i32 131072,.int .i32 196605,.int .i32 196608,.int .i32 262141]) (ok:=fun _=>True) (okp:=fun _=>True) ?hr ?hp (fun _ hk=>hk) trivial (zE _ _) (Nat.le_refl _) (by simp) ?_;(case hd=>rfl);(case hg=>rfl);(case hr=>first|(go_simp;done)|(go_simp;rfl));(case hp=>exact (Reps.one (show Kd.M (Kd.int .i32) _ _ _ 4352 [.int .i32 4352] from rfl) (Reps.one (show Kd.M (Kd.int .i32) _ _ _ 4447 [.int .i32 4447] from rfl) (Reps.one (show Kd.M (Kd.int .i32) _ _ _ 11904 [.int .i32 11904] from rfl) (Reps.one (show Kd.M (Kd.int .i32) _ _ _ 12350 [.int .i32 12350] from rfl) (Reps.one (show Kd.M (Kd.int .i32) _ _ _ 12353 [.int .i32 12353] from rfl) (Reps.one (show Kd.M (Kd.int .i32) _ _ _ 13311 [.int .i32 13311] from rfl) (Reps.one (show Kd.M (Kd.int .i32) _ _ _ 13312 [.int .i32 13312] from rfl) (Reps.one (show Kd.M (Kd.int .i32) _ _ _ 19903 [.int .i32 19903] from rfl) (Reps.one (show Kd.M (Kd.int .i32) _ _ _ 19968 [.int .i32 19968] from rfl) (Reps.one (show Kd.M (Kd.int .i32) _ _ _ 40959 [.int .i32 40959] from rfl) (Reps.one (show Kd.M (Kd.int .i32) _ _ _ 40960 [.int .i32 40960] from rfl) (Reps.one (show Kd.M (Kd.int .i32) _ _ _ 42191 [.int .i32 42191] from rfl) (Reps.one (show Kd.M (Kd.int .i32) _ _ _ 44032 [.int .i32 44032] from rfl) (Reps.one (show Kd.M (Kd.int .i32) _ _ _ 55203 [.int .i32 55203] from rfl) (Reps.one (show Kd.M (Kd.int .i32) _ _ _ 63744 [.int .i32 63744] from rfl) (Reps.one (show Kd.M (Kd.int .i32) _ _ _ 64255 [.int .i32 64255] from rfl) (Reps.one (show Kd.M (Kd.int .i32) _ _ _ 65072 [.int .i32 65072] from rfl) (Reps.one (show Kd.M (Kd.int .i32) _ _ _ 65135 [.int .i32 65135] from rfl) (Reps.one (show Kd.M (Kd.int .i32) _ _ _ 65280 [.int .i32 65280] from rfl) (Reps.one (show Kd.M (Kd.int .i32) _ _ _ 65376 [.int .i32 65376] from rfl) (Reps.one (show Kd.M (Kd.int .i32) _ _ _ 65504 [.int .i32 65504] from rfl) (Reps.one (show Kd.M (Kd.int .i32) _ _ _ 65510 [.int .i32 65510] from rfl) (Reps.one (show Kd.M (Kd.int .i32) _ _ _ 127744 [.int .i32 127744] from rfl) (Reps.one (show Kd.M (Kd.int .i32) _ _ _ 128591 [.int .i32 128591] from rfl) (Reps.one (show Kd.M (Kd.int .i32) _ _ _ 129280 [.int .i32 129280] from rfl) (Reps.one (show Kd.M (Kd.int .i32) _ _ _ 129535 [.int .i32 129535] from rfl) (Reps.one (show Kd.M (Kd.int .i32) _ _ _ 131072 [.int .i32 131072] from rfl) (Reps.one (show Kd.M (Kd.int .i32) _ _ _ 196605 [.int .i32 196605] from rfl) (Reps.one (show Kd.M (Kd.int .i32) _ _ _ 196608 [.int .i32 196608] from rfl) (Reps.one (show Kd.M (Kd.int .i32) _ _ _ 262141 [.int .i32 262141] from rfl) (Reps.none _ _))))))))))))))))))))))))))))))));intro v337 w14 ho15 hb hg_ hnew_;clear hg_ hnew_;(first|rw [← Ny336.out] at ho15|(simp only [Int.reduceToNat] at ho15;rw [← Ny336.out] at ho15));have n0_:=zA (Kd.R_lower ho15 (below_size (by repeat (first|(with_reducible first|exact HB.out|apply below_alloc|apply pw_below_drewN|apply below_drew1)|exact HB.out))));have n1_:=zA (below_step (by repeat (first|(with_reducible first|exact HB.out|apply below_alloc|apply pw_below_drewN|apply below_drew1)|exact HB.out)) hb);clear HB;have HO338:=n0_;have HB:=n1_;clear n0_ n1_;clear hb ho15));try go_wp2_with (fail))
    go_loopg [4] kj1 (fun kq v4 w'=>∃ (x4_2 : Int),v4 = .int .i64 x4_2∧Aside0 (repriseref1_Width.l0 kq a0 y336 x4_2 = some r)∧Aside0 (kq ≤ kj1)∧Aside0 (Kd.R (Kd.int .i32) 21 w' w.heap.size (fun _=>True) v337 y336)∧Aside0 (Below w.heap.size w w'))
    case atStart=>exact ⟨(0),(by first|rfl|(simp;done)|(simp [*];done)),H',⟨Nat.le_refl _⟩,⟨by (with_reducible repeat (first|apply Kd.R_alloc|apply Kd.R_drewN|apply Kd.R_drew));exact HO338.out⟩,⟨by repeat (first|(with_reducible first|exact HB.out|apply below_alloc|apply pw_below_drewN|apply below_drew1)|exact HB.out)⟩⟩
    case round =>
     clear H';(try clear c1);(try clear p2);(try clear c4);(try clear c5);(try clear c5b0);(try clear c7);(try clear c9);(try clear c11);(try clear c13);(try clear p2);obtain ⟨x4_2,rfl,HA,HK2,HO_3,HB⟩:=hrel;cases gk with
    |zero=>exact absurd HA.out (by simp [repriseref1_Width.l0])
    |succ k2 =>
      have H:=HA.out;clear HA;simp only [repriseref1_Width.l0] at H;by_cases c16 : x4_2 < (y336.length : Int)
      ·rw [if_pos c16] at H;have c16b0 : decide (x4_2 < (y336.length : Int)) = true:=zC c16;clear c16;by_cases c17 : 0 ≤ x4_2
       ·rw [if_pos c17] at H;have c17b0 : decide (0 ≤ x4_2) = true:=zC c17;clear c17;obtain ⟨ji18,hji18⟩ : ∃ j_ : Int,(wrap64 (x4_2 + 1)) = j_:=⟨_,rfl⟩;replace H : (if 0 ≤ (ji18) then (if (ji18) < (y336.length : Int) then ((repriseref1_in.f a0 (rd y336 x4_2) (rd y336 (ji18))).bind fun t341=>(if t341 = true then (some 2) else (repriseref1_Width.l0 k2 a0 y336 (wrap64 (x4_2 + 2))))) else (none)) else (none)) = some r:=by first|(rw [hji18] at H;exact H)|(simp only [hji18] at H ⊢;exact H)
        have hji18w : (IntKind.i64.wrap (x4_2 + 1)) = ji18:=(i64_w _).trans hji18;by_cases c19 : 0 ≤ (ji18)
        ·rw [if_pos c19] at H;have c19b0 : decide (0 ≤ (ji18)) = true:=zC c19;clear c19;by_cases c20 : (ji18) < (y336.length : Int)
         ·rw [if_pos c20] at H;have c20b0 : decide ((ji18) < (y336.length : Int)) = true:=zC c20;clear c20;replace H:=Option.bind_eq_some_iff.mp H;obtain ⟨t341,A210,H⟩:=H;replace H : (if t341 = true then (some 2) else (repriseref1_Width.l0 k2 a0 y336 (wrap64 (x4_2 + 2)))) = some r:=H;have A21:=zA A210;clear A210;by_cases c22 : t341 = true
          ·subst c22;have H1 : (some 2) = some r:=by rw [if_pos rfl] at H;exact H
           clear H;have H:=H1;clear H1;obtain rfl:=zY H;obtain ⟨Ao23,co23,eo23⟩:=Kd.R_slice HO_3.out;subst eo23;have p339 : 0 ≤ (x4_2 : Int):=of_decide_eq_true (by first|(with_reducible assumption)|assumption);have q339 : x4_2 < (y336.length : Int):=of_decide_eq_true (by first|(with_reducible assumption)|assumption);obtain ⟨ad339,e339,hx339_0⟩:=Kd.at_int (Kd.R_reads' HO_3.out).2.2 x4_2 p339 q339;cases e339;replace p339:=eq_true p339;replace q339:=eq_true q339;have p340 : 0 ≤ ((ji18) : Int):=of_decide_eq_true (by first|(with_reducible assumption)|assumption);have q340 : (ji18) < (y336.length : Int):=of_decide_eq_true (by first|(with_reducible assumption)|assumption);obtain ⟨ad340,e340,hx340_0⟩:=Kd.at_int (Kd.R_reads' HO_3.out).2.2 (ji18) p340 q340;obtain rfl : ad339 = ad340:=(by injection e340);replace p340:=eq_true p340;replace q340:=eq_true q340;go_wp2_with (fail);repeat (go_quiet (first|(go_at_call 80;(with_reducible refine (repriseref1_in.calls a0 (rd y336 x4_2) (rd y336 (ji18)) true _ A21.out).mono ?_);rintro e w' ⟨rfl,⟨nd,rfl⟩⟩;(try first|exact ⟨rfl,_,World.drewN_drewN _ _ _⟩|exact ⟨rfl,_,Eq.trans (World.drewN_drewN _ _ _) (congrArg (World.drewN _) (Nat.add_assoc _ _ _))⟩)));try go_wp2_with (fail))
           go_ret;exact ⟨by first|rfl|(simp [errW_none,errW_some] <;> rfl)|(simp only [← hji18];first|rfl|(simp [errW_none,errW_some] <;> rfl))|(simp [*,errW_none,errW_some] <;> rfl),by repeat (first|(with_reducible first|exact HB.out|apply below_alloc|apply pw_below_drewN|apply below_drew1)|exact HB.out)⟩
          ·replace c22:=Bool.eq_false_iff.mpr c22;subst c22;have H1 : (repriseref1_Width.l0 k2 a0 y336 (wrap64 (x4_2 + 2))) = some r:=by rw [if_neg (show ¬ (false = true) by decide)] at H;exact H
           clear H;have H:=H1;clear H1;have H':=zA H;clear H;obtain ⟨Ao24,co24,eo24⟩:=Kd.R_slice HO_3.out;subst eo24;have p339 : 0 ≤ (x4_2 : Int):=of_decide_eq_true (by first|(with_reducible assumption)|assumption);have q339 : x4_2 < (y336.length : Int):=of_decide_eq_true (by first|(with_reducible assumption)|assumption);obtain ⟨ad339,e339,hx339_0⟩:=Kd.at_int (Kd.R_reads' HO_3.out).2.2 x4_2 p339 q339;cases e339;replace p339:=eq_true p339;replace q339:=eq_true q339;have p340 : 0 ≤ ((ji18) : Int):=of_decide_eq_true (by first|(with_reducible assumption)|assumption);have q340 : (ji18) < (y336.length : Int):=of_decide_eq_true (by first|(with_reducible assumption)|assumption);obtain ⟨ad340,e340,hx340_0⟩:=Kd.at_int (Kd.R_reads' HO_3.out).2.2 (ji18) p340 q340;obtain rfl : ad339 = ad340:=(by injection e340);replace p340:=eq_true p340;replace q340:=eq_true q340;go_wp2_with (fail);repeat (go_quiet (first|(go_at_call 80;(with_reducible refine (repriseref1_in.calls a0 (rd y336 x4_2) (rd y336 (ji18)) false _ A21.out).mono ?_);rintro e w' ⟨rfl,⟨nd,rfl⟩⟩;(try first|exact ⟨rfl,_,World.drewN_drewN _ _ _⟩|exact ⟨rfl,_,Eq.trans (World.drewN_drewN _ _ _) (congrArg (World.drewN _) (Nat.add_assoc _ _ _))⟩)));try go_wp2_with (fail))
           go_roundg k2
           case measure=>have:=HJ1.out;have:=HK2.out;omega
           case rel=>exact ⟨(wrap64 (x4_2 + 2)),(by first|rfl|(simp;done)|(simp [*];done)),H',⟨by have:=HJ1.out;have:=HK2.out;omega⟩,⟨by (with_reducible repeat (first|apply Kd.R_alloc|apply Kd.R_drewN|apply Kd.R_drew));exact HO_3.out⟩,⟨by repeat (first|(with_reducible first|exact HB.out|apply below_alloc|apply pw_below_drewN|apply below_drew1)|exact HB.out)⟩⟩
         ·rw [if_neg c20] at H;exact absurd H (by simp)
        ·rw [if_neg c19] at H;exact absurd H (by simp)
       ·rw [if_neg c17] at H;exact absurd H (by simp)
      ·rw [if_neg c16] at H;have c16b0 : decide (x4_2 < (y336.length : Int)) = false:=zD c16;clear c16;obtain rfl:=zY H;obtain ⟨Ao25,co25,eo25⟩:=Kd.R_slice HO_3.out;subst eo25;go_wp2;repeat (go_quiet (fail);try go_wp2)
       go_ret;exact ⟨by first|rfl|(simp [errW_none,errW_some] <;> rfl)|(simp [*,errW_none,errW_some] <;> rfl),by repeat (first|(with_reducible first|exact HB.out|apply below_alloc|apply pw_below_drewN|apply below_drew1)|exact HB.out)⟩
end Go.Proofs.Ytooageeehallbaa.QRunsCut
namespace Go.Proofs.Ytooageeehallbaa
open Go Go.RowKit Go.Proofs.YtooageeehallbaaW.PrintWords Go.Proofs.YtooageeehallbaaW.PrintLast Go.Proofs.YtooageeehallbaaW.PrintMore
abbrev zH := @gate_store
end Go.Proofs.Ytooageeehallbaa
namespace Go.Proofs.Ytooageeehallbaa.QRunsCut
open Go.RowKit Go.Proofs.YtooageeehallbaaW.PrintWords Go.Proofs.YtooageeehallbaaW.PrintLast Go.Proofs.YtooageeehallbaaW.PrintMore
attribute [local go_sem] max2_int min2_int max_two min_two max_three min_three max_four min_four 
set_option linter.unusedVariables false
set_option linter.unusedSimpArgs false
/-! ### repriseref7_blank: function 53 -/
def repriseref7_blank.f  : Option (Int × Int × Int):=some (32,0,0)
set_option maxHeartbeats 8000000 in
set_option maxRecDepth 100000 in
theorem repriseref7_blank.calls  (r1 : Int) (r2 : Int) (r3 : Int) (w : World) (h : repriseref7_blank.f  = some (r1,r2,r3)) :
 Calls Try.prog 53 #[] w fun e w'=>e = .returned (.agg #[.int .i32 r1,.int .u16 r2,.int .u8 r3])∧Below w.heap.size w w':=by
 have hu35:=Try.underlying35;have HB:=zA (zE w.heap.size w);have H : (some (32,0,0)) = some (r1,r2,r3):=h;clear h;simp only [Option.some.injEq,Prod.mk.injEq] at H;obtain ⟨rfl,rfl,rfl⟩:=H;go_enter Try.func53,Try.ntmps53
 go_wp2_with (((with_reducible refine zG (N:=0) rfl ?_);refine box_event ?hg (N:=0) ?hd (cs:=#[.int .i32 0,.int .u16 0,.int .u8 0]) (t:=35) ?hr ?_;(case hd=>rfl);(case hg=>rfl);(case hr=>(go_simp;done));intro gb101 hg w1 hbox hb;have n0_:=zA (below_step HB.out hb);have n1_:=zA (hbox);have n2_:=zA ((by rw [hg];exact (below_size HB.out) : w.heap.size ≤ gb101));have n3_:=zA ((by rw [hg];exact (below_size HB.out) : w.heap.size ≤ gb101));clear HB;have HB:=n0_;have BK101:=n1_;have GW101:=n2_;have GE101:=n3_;clear n0_ n1_ n2_ n3_;clear hb hbox hg;have hcz2_0 : w1.cell? ⟨gb101,0,none⟩ = some (.int .i32 0):=(blk_cell BK101.out 0).trans rfl;have hcz2_1 : w1.cell? ⟨gb101,1,none⟩ = some (.int .u16 0):=(blk_cell BK101.out 1).trans rfl;have hcz2_2 : w1.cell? ⟨gb101,2,none⟩ = some (.int .u8 0):=(blk_cell BK101.out 2).trans rfl;have hfz2_0:=blk_frozen BK101.out 0;have hfz2_1:=blk_frozen BK101.out 1;have hfz2_2:=blk_frozen BK101.out 2));refine bodyPost_ret (results_cell_row rfl _ _ gb101 35 #[.int .i32 32,.int .u16 0,.int .u8 0] (0,0) _ rfl (by refine blk_put (cs:=#[.int .i32 32,.int .u16 0,.int .u8 0]) ?_ 2 _ rfl;refine blk_put (cs:=#[.int .i32 32,.int .u16 0,.int .u8 0]) ?_ 1 _ rfl;refine blk_put (cs:=#[.int .i32 0,.int .u16 0,.int .u8 0]) ?_ 0 _ rfl;exact BK101.out) Try.underlying35 rfl (by kernel_rfl)) rfl ?_;exact ⟨by rfl,by repeat ((with_reducible first|exact HB.out|refine below_set ?_ GE101.out))⟩
/-! ### repriseref7_Blank: function 35 -/
mutual
def repriseref7_Blank.j0 : Nat → Int → Int → Bool → Option ((List (S35)))
|0,_,_,_=>none
|k + 1,x0,x1,x20=>if x20 = true then (some ([] : List (S35))) else (if 0 ≤ (wrap64 (x0 * x1)) then (if (wrap64 (x0 * x1) : Int).toNat ≤ 35184372088832 then (repriseref7_Blank.l0 k (List.replicate (wrap64 (x0 * x1) : Int).toNat z35) 0) else (none)) else (none))
def repriseref7_Blank.l0 : Nat → List (S35) → Int → Option ((List (S35)))
|0,_,_=>none
|k + 1,x5,x6=>if x6 < (x5.length : Int) then ((repriseref7_blank.f).bind fun bt105=>(if 0 ≤ x6 then (repriseref7_Blank.l0 k (x5.set (x6 : Int).toNat (⟨bt105.1,bt105.2.1,bt105.2.2⟩ : S35)) (wrap64 (x6 + 1))) else (none))) else (some x5)
end
def repriseref7_Blank.f (k : Nat) (a0 : Int) (a1 : Int) : Option ((List (S35))):=if a0 < 1 then (repriseref7_Blank.j0 k a0 a1 true) else (if a0 > 1000 then (repriseref7_Blank.j0 k a0 a1 true) else (if a1 < 1 then (repriseref7_Blank.j0 k a0 a1 true) else (repriseref7_Blank.j0 k a0 a1 (decide (a1 > 1000)))))
theorem repriseref7_Blank.mono_l : ∀ k,(∀ y0 y1 y2,LeO (repriseref7_Blank.j0 k y0 y1 y2) (repriseref7_Blank.j0 (k + 1) y0 y1 y2))∧(∀ y0 y1,LeO (repriseref7_Blank.l0 k y0 y1) (repriseref7_Blank.l0 (k + 1) y0 y1))
|0=>⟨fun _ _ _ r h=>by simp [repriseref7_Blank.j0] at h,fun _ _ r h=>by simp [repriseref7_Blank.l0] at h⟩
|k + 1=>by
  obtain ⟨ih0,ih1⟩:=repriseref7_Blank.mono_l k;refine ⟨?_,?_⟩
  ·intro y0 y1 y2;unfold repriseref7_Blank.j0;repeat' first
  |(with_reducible exact ih0 _ _ _)
  |(with_reducible exact ih1 _ _)
  |(with_reducible exact LeO.refl _)
  |(with_reducible exact LeO.none _)
  |(with_reducible refine LeO.ite ?_ ?_)
  |(with_reducible refine LeO.bind ?_ (fun _=>?_))
  |exact ih0 _ _ _
  |exact ih1 _ _
  |exact LeO.none _
  |refine LeO.ite ?_ ?_
  |refine LeO.bind ?_ (fun _=>?_)
  ·intro y0 y1;unfold repriseref7_Blank.l0;repeat' first
  |(with_reducible exact ih0 _ _ _)
  |(with_reducible exact ih1 _ _)
  |(with_reducible exact LeO.refl _)
  |(with_reducible exact LeO.none _)
  |(with_reducible refine LeO.ite ?_ ?_)
  |(with_reducible refine LeO.bind ?_ (fun _=>?_))
  |exact ih0 _ _ _
  |exact ih1 _ _
  |exact LeO.none _
  |refine LeO.ite ?_ ?_
  |refine LeO.bind ?_ (fun _=>?_)
theorem repriseref7_Blank.mono : ∀ a0 a1 k,LeO (repriseref7_Blank.f k a0 a1) (repriseref7_Blank.f (k + 1) a0 a1):=by
 intro a0 a1 k;obtain ⟨ih0,ih1⟩:=repriseref7_Blank.mono_l k;unfold repriseref7_Blank.f;repeat' first
 |(with_reducible exact ih0 _ _ _)
 |(with_reducible exact ih1 _ _)
 |(with_reducible exact LeO.refl _)
 |(with_reducible exact LeO.none _)
 |(with_reducible refine LeO.ite ?_ ?_)
 |(with_reducible refine LeO.bind ?_ (fun _=>?_))
 |exact ih0 _ _ _
 |exact ih1 _ _
 |exact LeO.none _
 |refine LeO.ite ?_ ?_
 |refine LeO.bind ?_ (fun _=>?_)
set_option maxHeartbeats 8000000 in
set_option maxRecDepth 100000 in
theorem repriseref7_Blank.calls (k : Nat) (a0 : Int) (a1 : Int) (r : List (S35)) (w : World) (h : repriseref7_Blank.f k a0 a1 = some r) :
 Calls Try.prog 35 #[.int .i64 a0,.int .i64 a1] w fun e w'=>∃ v0_ : Value,e = .returned (v0_)∧Kd.R k35 35 w' w.heap.size (fun _=>True) v0_ r∧Below w.heap.size w w':=by
 have hu35:=Try.underlying35;have HB:=zA (zE w.heap.size w);have H : (if a0 < 1 then (repriseref7_Blank.j0 k a0 a1 true) else (if a0 > 1000 then (repriseref7_Blank.j0 k a0 a1 true) else (if a1 < 1 then (repriseref7_Blank.j0 k a0 a1 true) else (repriseref7_Blank.j0 k a0 a1 (decide (a1 > 1000)))))) = some r:=h;clear h;have HC3:=zA H;clear H;go_enter Try.func35,Try.ntmps35
 go_upto_region 1 with (fail)
 go_cut [20] (fun v20 wc=>∃ (kq : Nat) (x20_2 : Bool),v20 = .bool x20_2∧Aside0 (repriseref7_Blank.j0 kq a0 a1 x20_2 = some r)∧Aside0 (kq ≤ k)∧Aside0 (Below w.heap.size w wc))
 case first =>
  have H:=HC3.out;clear HC3;by_cases c4 : a0 < 1
  ·rw [if_pos c4] at H;have c4b0 : decide (a0 < 1) = true:=zC c4;clear c4;have H':=zA H;clear H;go_wp2;go_meet
   case rel=>exact ⟨_,(true),(by rfl),H',⟨by omega⟩,⟨HB.out⟩⟩
  ·rw [if_neg c4] at H;have c4b0 : decide (a0 < 1) = false:=zD c4;clear c4;by_cases c5 : a0 > 1000
   ·rw [if_pos c5] at H;have c5b0 : decide (1000 < a0) = true:=zC c5;clear c5;have H':=zA H;clear H;go_wp2;go_meet
    case rel=>exact ⟨_,(true),(by rfl),H',⟨by omega⟩,⟨HB.out⟩⟩
   ·rw [if_neg c5] at H;have c5b0 : decide (1000 < a0) = false:=zD c5;clear c5;by_cases c6 : a1 < 1
    ·rw [if_pos c6] at H;have c6b0 : decide (a1 < 1) = true:=zC c6;clear c6;have H':=zA H;clear H;go_wp2;go_meet
     case rel=>exact ⟨_,(true),(by rfl),H',⟨by omega⟩,⟨HB.out⟩⟩
    ·rw [if_neg c6] at H;have c6b0 : decide (a1 < 1) = false:=zD c6;clear c6;have H':=zA H;clear H;go_wp2;go_meet
     case rel=>exact ⟨_,(decide (a1 > 1000)),(by rfl),H',⟨by omega⟩,⟨HB.out⟩⟩
 case rest =>
  clear HC3;(try clear p2);(try clear c3);(try clear c4);(try clear c4b0);(try clear c5);(try clear c5b0);(try clear c6);(try clear c6b0);obtain ⟨kq,x20_2,rfl,HA,HJ2,HB⟩:=hcut;cases kq with
 |zero=>exact absurd HA.out (by simp [repriseref7_Blank.j0])
 |succ kj2 =>
   have H:=HA.out;clear HA;simp only [repriseref7_Blank.j0] at H;by_cases c7 : x20_2 = true
   ·subst c7;have H1 : (some ([] : List (S35))) = some r:=by rw [if_pos rfl] at H;exact H
    clear H;have H:=H1;clear H1;obtain rfl:=zY H;go_wp2;go_ret;exact ⟨_,by rfl,by exact Kd.R_nil _ _ _ _ _,HB.out⟩
   ·replace c7:=Bool.eq_false_iff.mpr c7;subst c7;have H1 : (if 0 ≤ (wrap64 (a0 * a1)) then (if (wrap64 (a0 * a1) : Int).toNat ≤ 35184372088832 then (repriseref7_Blank.l0 kj2 (List.replicate (wrap64 (a0 * a1) : Int).toNat z35) 0) else (none)) else (none)) = some r:=by rw [if_neg (show ¬ (false = true) by decide)] at H;exact H
    clear H;have H:=H1;clear H1;obtain ⟨ji8,hji8⟩ : ∃ j_ : Int,(wrap64 (a0 * a1)) = j_:=⟨_,rfl⟩;replace H : (if 0 ≤ (ji8) then (if (ji8 : Int).toNat ≤ 35184372088832 then (repriseref7_Blank.l0 kj2 (List.replicate (ji8 : Int).toNat z35) 0) else (none)) else (none)) = some r:=by (rw [hji8] at H;exact H)
    have hji8w : (IntKind.i64.wrap (a0 * a1)) = ji8:=(i64_w _).trans hji8;by_cases c9 : 0 ≤ (ji8)
    ·rw [if_pos c9] at H;have c9b0:=eq_true c9;have c9b1 : decide (0 ≤ (ji8)) = true:=zC c9;clear c9;by_cases c10 : (ji8 : Int).toNat ≤ 35184372088832
     ·rw [if_pos c10] at H;have c10b0:=eq_true c10;have c10b1 : decide ((ji8 : Int).toNat ≤ 35184372088832) = true:=zC c10;clear c10;obtain ⟨y102,hy102⟩ : ∃ y_ : List (S35),y_ = (List.replicate (ji8 : Int).toNat z35):=⟨_,rfl⟩;replace H : (repriseref7_Blank.l0 kj2 y102 0) = some r:=by (rw [hy102];with_reducible exact H)
      have Ny102:=zA hy102;clear hy102;have H':=zA H;clear H;go_wp2_with (((with_reducible refine zG (N:=24) rfl ?_);refine Kd.R_make k35 _ 35 rfl (N:=24) rfl 24 _ _ rfl ji8 rfl rfl Try.underlying24 (.agg #[(.int .i32 0),(.int .u16 0),(.int .u8 0)]) 8 info35 rfl (by decide) (by omega) z35 (ok:=fun _=>True) (okp:=fun _=>True) (k35_mkM _ _ _ z35 ) (fun _ hk=>hk) trivial od (Nat.le_trans (Nat.mul_le_mul_right _ (od : ji8.toNat ≤ 35184372088832)) (by omega)) (zE _ _) (Nat.le_refl _) ?_;intro v103 w11 ho12 hb hg_ hnew_;clear hg_ hnew_;(rw [← Ny102.out] at ho12);have n0_:=zA (Kd.R_lower ho12 (below_size HB.out));have n1_:=zA (below_step HB.out hb);clear HB;have HO104:=n0_;have HB:=n1_;clear n0_ n1_;clear hb ho12));go_loopg [6] kj2 (fun kq v6 w'=>∃ (x5_2 : List (S35)) (x6_2 : Int),v6 = .int .i64 x6_2∧Aside0 (repriseref7_Blank.l0 kq x5_2 x6_2 = some r)∧Aside0 (kq ≤ kj2)∧Aside0 (Kd.R k35 35 w' w.heap.size (fun _=>True) v103 x5_2)∧Aside0 (Below w.heap.size w w'))
      case atStart=>exact ⟨(y102),(0),(by rfl),H',⟨Nat.le_refl _⟩,⟨HO104.out⟩,⟨HB.out⟩⟩
      case round =>
       clear H';(try clear c1);(try clear p2);(try clear c3);(try clear c4);(try clear c4b0);(try clear c5);(try clear c5b0);(try clear c6);(try clear c6b0);(try clear p6);(try clear c7);(try clear c9);(try clear c9b0);(try clear c9b1);(try clear c10);(try clear c10b0);(try clear c10b1);(try clear p2);obtain ⟨x5_2,x6_2,rfl,HA,HK2,HO_5,HB⟩:=hrel;cases gk with
      |zero=>exact absurd HA.out (by simp [repriseref7_Blank.l0])
      |succ k2 =>
        have H:=HA.out;clear HA;simp only [repriseref7_Blank.l0] at H;by_cases c13 : x6_2 < (x5_2.length : Int)
        ·rw [if_pos c13] at H;have c13b0 : decide (x6_2 < (x5_2.length : Int)) = true:=zC c13;clear c13;replace H:=Option.bind_eq_some_iff.mp H;obtain ⟨⟨t105,t106,t107⟩,A140,H⟩:=H;replace H : (if 0 ≤ x6_2 then (repriseref7_Blank.l0 k2 (x5_2.set (x6_2 : Int).toNat (⟨t105,t106,t107⟩ : S35)) (wrap64 (x6_2 + 1))) else (none)) = some r:=H;have A14:=zA A140;clear A140;by_cases c15 : 0 ≤ x6_2
         ·rw [if_pos c15] at H;have c15b0 : decide (0 ≤ x6_2) = true:=zC c15;clear c15;obtain ⟨y108,hy108⟩ : ∃ y_ : List (S35),y_ = (x5_2.set (x6_2 : Int).toNat (⟨t105,t106,t107⟩ : S35)):=⟨_,rfl⟩;replace H : (repriseref7_Blank.l0 k2 y108 (wrap64 (x6_2 + 1))) = some r:=by (rw [hy108];with_reducible exact H)
          have Ny108:=zA hy108;clear hy108;have H':=zA H;clear H;obtain ⟨Ao17,co17,eo17⟩:=Kd.R_slice HO_5.out;subst eo17;go_wp2_with (first|((with_reducible refine zI (f:=53) rfl ?_);refine goesL_ (some 33) rfl rfl Try.func53 (by kernel_rfl) rfl #[] rfl (by (try simp only [zS,zT,zU]);done) ?_;(with_reducible refine (repriseref7_blank.calls  t105 t106 t107 _ A14.out).mono ?_);rintro e w18 ⟨rfl,hb⟩;refine ⟨_,rfl,?_⟩;have n0_:=zA (Kd.R_below HO_5.out hb);have n1_:=zA (below_step HB.out hb);clear HO_5;clear HB;have HO_5:=n0_;have HB:=n1_;clear n0_ n1_;(try clear hb);have p16 : 0 ≤ (x6_2 : Int):=od;have q16 : (x6_2 : Int) < ((x5_2.length : Int) : Int):=od;obtain ⟨go16,co16,eo16,gb16,gl16,cl16,HG16⟩:=Kd.R_form HO_5.out (by omega);(cases eo16);have GB16:=zA gb16;have GG16:=zA HG16;clear gb16 gl16 HG16;obtain ⟨ce16,hcl16,hM16,hcc16,hfr16⟩:=Kd.R_elem HO_5.out z35 (x6_2 : Int) p16 q16;obtain rfl:=k35_openM hM16;have hx16_0 : w18.cell? ⟨go16,(x6_2 : Int).toNat * 3,none⟩ = some (.int .i32 ((rd_T35 x5_2 x6_2).f0)):=hcc16 0 _ rfl;have hx16_1 : w18.cell? ⟨go16,(x6_2 : Int).toNat * 3 + 1,none⟩ = some (.int .u16 ((rd_T35 x5_2 x6_2).f1)):=hcc16 1 _ rfl;have hx16_2 : w18.cell? ⟨go16,(x6_2 : Int).toNat * 3 + 2,none⟩ = some (.int .u8 ((rd_T35 x5_2 x6_2).f2)):=hcc16 2 _ rfl;have hf16_0 : w18.frozen? ⟨go16,(x6_2 : Int).toNat * 3,none⟩ = false:=hfr16 0;have hf16_1 : w18.frozen? ⟨go16,(x6_2 : Int).toNat * 3 + 1,none⟩ = false:=hfr16 1;have hf16_2 : w18.frozen? ⟨go16,(x6_2 : Int).toNat * 3 + 2,none⟩ = false:=hfr16 2;clear hcl16 hcc16 hfr16 hM16;replace p16:=eq_true p16;replace q16:=eq_true q16;have HX19:=zA (show Kd.R k35 35 w18 w.heap.size (fun _=>True) (.slice (some ⟨go16,0,none⟩) x5_2.length co17) x5_2 from HO_5.out);obtain ⟨ce19,hcl19,hM19,hcc19,hfr19⟩:=Kd.R_elem HX19.out z35 (x6_2 : Int) od (by have h_ : (x6_2 : Int) < ((x5_2.length : Int) : Int):=od;exact h_);obtain rfl:=k35_openM hM19;have HP19:=Kd.R_seg HX19.out (x6_2 : Int) od (by have h_ : (x6_2 : Int) < ((x5_2.length : Int) : Int):=od;exact h_) (seg:=[.int .i32 t105,.int .u16 t106,.int .u8 t107]) (j:=0) hcl19 hcc19 (show 3 ≤ 3 from by decide) (x':=(⟨t105,t106,t107⟩ : S35)) (k35_mkM _ _ _ (⟨t105,t106,t107⟩ : S35) ) (fun _ hk=>hk);have hx19_0:=hcc19 0 _ rfl;(try simp only [show (k35).sz = 3 from rfl,Nat.mul_one,Nat.add_zero] at hx19_0);have hf19_0:=hfr19 0;(try simp only [show (k35).sz = 3 from rfl,Nat.mul_one,Nat.add_zero] at hf19_0);have hx19_1:=hcc19 1 _ rfl;(try simp only [show (k35).sz = 3 from rfl,Nat.mul_one,Nat.add_zero] at hx19_1);have hf19_1:=hfr19 1;(try simp only [show (k35).sz = 3 from rfl,Nat.mul_one,Nat.add_zero] at hf19_1);have hx19_2:=hcc19 2 _ rfl;(try simp only [show (k35).sz = 3 from rfl,Nat.mul_one,Nat.add_zero] at hx19_2);have hf19_2:=hfr19 2;(try simp only [show (k35).sz = 3 from rfl,Nat.mul_one,Nat.add_zero] at hf19_2);clear hcl19 hcc19 hfr19 hM19)|((with_reducible refine zH (t:=35) (p:=34) rfl ?_);refine store_event (t:=35) (p:=34) (v:=?vo_w20) (w1:=(((w18.setCell ⟨go16,(x6_2 : Int).toNat * 3,none⟩ (.int .i32 t105)).setCell ⟨go16,(x6_2 : Int).toNat * 3 + 1,none⟩ (.int .u16 t106)).setCell ⟨go16,(x6_2 : Int).toNat * 3 + 2,none⟩ (.int .u8 t107))) ?hg ?ho ?hn ?hr ?_;(case ho=>rfl);(case hg=>rfl);(case hn=>rfl);(case hr=>(go_simp;done));intro w20 hw;have hg : w18.grownBy w20 (some go16):=(by rw [hw];exact HP19.2);have hp_ : Kd.R k35 35 w20 w.heap.size (fun _=>True) (.slice (some ⟨go16,0,none⟩) x5_2.length co17) y108:=(by rw [hw,Ny108.out];exact HP19.1);clear HP19;have n0_:=zA (hp_);have n1_:=zA ((by rw [hw];exact below_set (below_set (below_set (HB.out) GB16.out) GB16.out) GB16.out : Below w.heap.size w w20));clear HO_5;clear HB;have HO_5:=n0_;have HB:=n1_;clear n0_ n1_;clear hg hw hp_));go_roundg k2
          case measure=>have:=HJ2.out;have:=HK2.out;omega
          case rel=>exact ⟨(y108),(wrap64 (x6_2 + 1)),(by rfl),H',⟨by have:=HJ2.out;have:=HK2.out;omega⟩,⟨HO_5.out⟩,⟨HB.out⟩⟩
         ·rw [if_neg c15] at H;exact absurd H (by simp)
        ·rw [if_neg c13] at H;have c13b0 : decide (x6_2 < (x5_2.length : Int)) = false:=zD c13;clear c13;obtain rfl:=zY H;obtain ⟨Ao21,co21,eo21⟩:=Kd.R_slice HO_5.out;subst eo21;go_wp2;go_ret;exact ⟨_,by rfl,HO_5.out,HB.out⟩
     ·rw [if_neg c10] at H;exact absurd H (by simp)
    ·rw [if_neg c9] at H;exact absurd H (by simp)
-- NOT PRINTED: function 36 (repriseref7_New)
end Go.Proofs.Ytooageeehallbaa.QRunsCut
