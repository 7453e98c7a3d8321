/- Parts of the claim's proof, merged; no condition beyond what each theorem states. -/
import Derived.Test.YtooageeehallbaaG1
import Derived.Test.YtooageeehallbaaG6
import Derived.Laws.BitsAllLaws
import Derived.RowKit
import Derived.Laws.BytesArg
import Derived.Lib.Bytes
import Derived.Test.YtooageeehallbaaG5
namespace Go.Proofs.Ytooageeehallbaa.QRunsCut
open Go.RowKit Go.Proofs.YtooageeehallbaaW.PrintWords Go.Proofs.YtooageeehallbaaW.PrintLast Go.Proofs.YtooageeehallbaaW.PrintMore
attribute [local go_sem] max2_int min2_int max_two min_two max_three min_three max_four min_four 
attribute [local go_sem high] eqA35
set_option linter.unusedVariables false
set_option linter.unusedSimpArgs false
/-! ### runs_Put: function 17 -/
mutual
def runs_Put.l0 : Nat → List (S35) → List Int → Int → Option (List Int × Int)
|0,_,_,_=>none
|k + 1,x0,x4,x5=>if x5 < (x0.length : Int) then (if 0 ≤ x5 then ((runs_Right.f ((rd_T35 x0 x5).f0) ((rd_T35 x0 x5).f1) ((rd_T35 x0 x5).f2)).bind fun t1114=>(if t1114 = true then (runs_Put.l1 k x0 x4 x5 1) else (some (([] : List Int),27)))) else (none)) else (some (x4,0))
def runs_Put.j2 : Nat → List (S35) → List Int → Int → Int → Option (List Int × Int)
|0,_,_,_,_=>none
|k + 1,x0,x4,x5,x6=>if 0 ≤ x5 then (if x5 < (x0.length : Int) then ((some (([IntKind.u64.wrap (x6),IntKind.u64.wrap ((rd_T35 x0 x5).f0),Go.bits .or .u64 (IntKind.u64.wrap ((IntKind.u64.wrap ((rd_T35 x0 x5).f1)) * 4)) (IntKind.u64.wrap ((rd_T35 x0 x5).f2))] : List Int) : List Int)).bind fun y1120=>(runs_Put.l2 k x0 x4 x5 x6 y1120 (y1120.length : Int) 0)) else (none)) else (none)
def runs_Put.l2 : Nat → List (S35) → List Int → Int → Int → List Int → Int → Int → Option (List Int × Int)
|0,_,_,_,_,_,_,_=>none
|k + 1,x0,x4,x5,x6,x62,x63,x64=>if x64 < x63 then (if 0 ≤ x64 then (if x64 < (x62.length : Int) then ((leb_Put.f k (rd x62 x64)).bind fun t1124=>(if x4.length + t1124.length < 140737488355328 then (runs_Put.l2 k x0 (x4 ++ t1124) x5 x6 x62 x63 (wrap64 (x64 + 1))) else (none))) else (none)) else (none)) else (runs_Put.l0 k x0 x4 (wrap64 (x5 + x6)))
def runs_Put.l1 : Nat → List (S35) → List Int → Int → Int → Option (List Int × Int)
|0,_,_,_,_=>none
|k + 1,x0,x4,x5,x6=>if (wrap64 (x5 + x6)) < (x0.length : Int) then (if 0 ≤ (wrap64 (x5 + x6)) then (if 0 ≤ x5 then (if x5 < (x0.length : Int) then (if (((rd_T35 x0 (wrap64 (x5 + x6))).f0) == ((rd_T35 x0 x5).f0) && (((rd_T35 x0 (wrap64 (x5 + x6))).f1) == ((rd_T35 x0 x5).f1) && (((rd_T35 x0 (wrap64 (x5 + x6))).f2) == ((rd_T35 x0 x5).f2)))) = true then (runs_Put.l1 k x0 x4 x5 (wrap64 (x6 + 1))) else (runs_Put.j2 k x0 x4 x5 x6)) else (none)) else (none)) else (none)) else (runs_Put.j2 k x0 x4 x5 x6)
end
def runs_Put.f (k : Nat) (l0 : List (S35)) : Option (List Int × Int):=runs_Put.l0 k l0 ([] : List Int) 0
theorem runs_Put.mono_l : ∀ k,(∀ y0 y1 y2,LeO (runs_Put.l0 k y0 y1 y2) (runs_Put.l0 (k + 1) y0 y1 y2))∧(∀ y0 y1 y2 y3,LeO (runs_Put.j2 k y0 y1 y2 y3) (runs_Put.j2 (k + 1) y0 y1 y2 y3))∧(∀ y0 y1 y2 y3 y4 y5 y6,LeO (runs_Put.l2 k y0 y1 y2 y3 y4 y5 y6) (runs_Put.l2 (k + 1) y0 y1 y2 y3 y4 y5 y6))∧(∀ y0 y1 y2 y3,LeO (runs_Put.l1 k y0 y1 y2 y3) (runs_Put.l1 (k + 1) y0 y1 y2 y3))
|0=>⟨fun _ _ _ r h=>by simp [runs_Put.l0] at h,fun _ _ _ _ r h=>by simp [runs_Put.j2] at h,fun _ _ _ _ _ _ _ r h=>by simp [runs_Put.l2] at h,fun _ _ _ _ r h=>by simp [runs_Put.l1] at h⟩
|k + 1=>by
  obtain ⟨ih0,ih1,ih2,ih3⟩:=runs_Put.mono_l k;refine ⟨?_,?_,?_,?_⟩
  ·intro y0 y1 y2;unfold runs_Put.l0;repeat' first
  |(with_reducible exact ih0 _ _ _)
  |(with_reducible exact ih1 _ _ _ _)
  |(with_reducible exact ih2 _ _ _ _ _ _ _)
  |(with_reducible exact ih3 _ _ _ _)
  |(with_reducible exact leb_Put.mono _ _)
  |(with_reducible exact LeO.refl _)
  |(with_reducible exact LeO.none _)
  |(with_reducible refine LeO.ite ?_ ?_)
  |(with_reducible refine LeO.bind ?_ (fun _=>?_))
  |exact ih0 _ _ _
  |exact ih1 _ _ _ _
  |exact ih2 _ _ _ _ _ _ _
  |exact ih3 _ _ _ _
  |exact leb_Put.mono _ _
  |exact LeO.none _
  |refine LeO.ite ?_ ?_
  |refine LeO.bind ?_ (fun _=>?_)
  ·intro y0 y1 y2 y3;unfold runs_Put.j2;repeat' first
  |(with_reducible exact ih0 _ _ _)
  |(with_reducible exact ih1 _ _ _ _)
  |(with_reducible exact ih2 _ _ _ _ _ _ _)
  |(with_reducible exact ih3 _ _ _ _)
  |(with_reducible exact leb_Put.mono _ _)
  |(with_reducible exact LeO.refl _)
  |(with_reducible exact LeO.none _)
  |(with_reducible refine LeO.ite ?_ ?_)
  |(with_reducible refine LeO.bind ?_ (fun _=>?_))
  |exact ih0 _ _ _
  |exact ih1 _ _ _ _
  |exact ih2 _ _ _ _ _ _ _
  |exact ih3 _ _ _ _
  |exact leb_Put.mono _ _
  |exact LeO.none _
  |refine LeO.ite ?_ ?_
  |refine LeO.bind ?_ (fun _=>?_)
  ·intro y0 y1 y2 y3 y4 y5 y6;unfold runs_Put.l2;repeat' first
  |(with_reducible exact ih0 _ _ _)
  |(with_reducible exact ih1 _ _ _ _)
  |(with_reducible exact ih2 _ _ _ _ _ _ _)
  |(with_reducible exact ih3 _ _ _ _)
  |(with_reducible exact leb_Put.mono _ _)
  |(with_reducible exact LeO.refl _)
  |(with_reducible exact LeO.none _)
  |(with_reducible refine LeO.ite ?_ ?_)
  |(with_reducible refine LeO.bind ?_ (fun _=>?_))
  |exact ih0 _ _ _
  |exact ih1 _ _ _ _
  |exact ih2 _ _ _ _ _ _ _
  |exact ih3 _ _ _ _
  |exact leb_Put.mono _ _
  |exact LeO.none _
  |refine LeO.ite ?_ ?_
  |refine LeO.bind ?_ (fun _=>?_)
  ·intro y0 y1 y2 y3;unfold runs_Put.l1;repeat' first
  |(with_reducible exact ih0 _ _ _)
  |(with_reducible exact ih1 _ _ _ _)
  |(with_reducible exact ih2 _ _ _ _ _ _ _)
  |(with_reducible exact ih3 _ _ _ _)
  |(with_reducible exact leb_Put.mono _ _)
  |(with_reducible exact LeO.refl _)
  |(with_reducible exact LeO.none _)
  |(with_reducible refine LeO.ite ?_ ?_)
  |(with_reducible refine LeO.bind ?_ (fun _=>?_))
  |exact ih0 _ _ _
  |exact ih1 _ _ _ _
  |exact ih2 _ _ _ _ _ _ _
  |exact ih3 _ _ _ _
  |exact leb_Put.mono _ _
  |exact LeO.none _
  |refine LeO.ite ?_ ?_
  |refine LeO.bind ?_ (fun _=>?_)
theorem runs_Put.mono : ∀ a0 k,LeO (runs_Put.f k a0) (runs_Put.f (k + 1) a0):=by
 intro a0 k;obtain ⟨ih0,ih1,ih2,ih3⟩:=runs_Put.mono_l k;unfold runs_Put.f;repeat' first
 |(with_reducible exact ih0 _ _ _)
 |(with_reducible exact ih1 _ _ _ _)
 |(with_reducible exact ih2 _ _ _ _ _ _ _)
 |(with_reducible exact ih3 _ _ _ _)
 |(with_reducible exact leb_Put.mono _ _)
 |(with_reducible exact LeO.refl _)
 |(with_reducible exact LeO.none _)
 |(with_reducible refine LeO.ite ?_ ?_)
 |(with_reducible refine LeO.bind ?_ (fun _=>?_))
 |exact ih0 _ _ _
 |exact ih1 _ _ _ _
 |exact ih2 _ _ _ _ _ _ _
 |exact ih3 _ _ _ _
 |exact leb_Put.mono _ _
 |exact LeO.none _
 |refine LeO.ite ?_ ?_
 |refine LeO.bind ?_ (fun _=>?_)
def runs_Put.T7 : Bool × List (List Nat × List Nat):=(true,[([],[]),([],[]),([0,1],[0,1]),([],[]),([3],[3]),([2,4],[2,4]),([5],[5]),([6],[6]),([6],[6]),([6],[6]),([8,9,6],[6,8,9]),([7,10,6],[6,7,10]),([11,6],[6,11]),([6],[6]),([6],[6]),([13,14,6],[6,13,14]),([15,6],[6,15]),([12,16,6],[6,12,16]),([6,17],[6,17])])
def runs_Put.B7 : List Nat:=[0,0,3,0,8,31,63,127,127,127,895,2047,4095,127,127,24703,57471,131071,262143]
theorem runs_Put.tab7 : rtab .any (opsOf Try.f17 7) = runs_Put.T7:=by kernel_rfl
theorem runs_Put.bits7 : waitsOk runs_Put.T7.2 runs_Put.B7 = true:=by kernel_rfl
def runs_Put.T9 : Bool × List (List Nat × List Nat):=(true,[([],[]),([0],[0]),([],[]),([],[]),([2,3],[2,3]),([4],[4]),([5],[5]),([6],[6]),([],[]),([],[]),([8,9],[8,9]),([10],[10]),([11],[11]),([12],[12]),([13],[13]),([],[]),([],[]),([15,16],[15,16]),([17],[17]),([18],[18]),([19],[19]),([14,20],[14,20]),([1,7,21],[1,7,21]),([22],[22]),([],[])])
def runs_Put.B9 : List Nat:=[0,1,0,0,12,28,60,124,0,0,768,1792,3840,7936,16128,0,0,98304,229376,491520,1015808,2096896,4194303,8388607,0]
theorem runs_Put.tab9 : rtab .any (opsOf Try.f17 9) = runs_Put.T9:=by kernel_rfl
theorem runs_Put.bits9 : waitsOk runs_Put.T9.2 runs_Put.B9 = true:=by kernel_rfl
set_option maxHeartbeats 8000000 in
set_option maxRecDepth 100000 in
theorem runs_Put.calls (k : Nat) (A0 : Option Addr) (c0 : Nat) (l0 : List (S35)) (r1 : List Int) (r2 : Int) (w : World) (hr0 : Kd.C k35 w A0 l0.length l0) (hc0 : l0.length ≤ c0) (h : runs_Put.f k l0 = some (r1,r2)) :
 Calls Try.prog 17 #[.slice A0 l0.length c0] w fun e w'=>∃ v0_ : Value,e = .returned (.tuple #[v0_,.int .i64 r2])∧Kd.R (Kd.int .u8) 5 w' w.heap.size (fun _=>True) v0_ r1∧Below w.heap.size w w':=by
 have hu35:=Try.underlying35;have HR0:=zA hr0;have HC0:=zA hc0;clear hr0 hc0;have HB:=zA (zE w.heap.size w);have H : (runs_Put.l0 k l0 ([] : List Int) 0) = some (r1,r2):=h;clear h;have H':=zA H;clear H;go_enter Try.func17,Try.ntmps17
 go_wp2;go_loopg [4,5] k (fun kq v4 v5 w'=>∃ (x4_1 : List Int) (x5_1 : Int),v5 = .int .i64 x5_1∧Aside0 (runs_Put.l0 kq l0 x4_1 x5_1 = some (r1,r2))∧Aside0 (kq ≤ k)∧Aside0 (Kd.R (Kd.int .u8) 5 w' w.heap.size (fun _=>True) v4 x4_1)∧Aside0 (Below w.heap.size w w'))
 case atStart=>exact ⟨(([] : List Int)),(0),(by rfl),H',⟨Nat.le_refl _⟩,⟨by exact Kd.R_nil _ _ _ _ _⟩,⟨HB.out⟩⟩
 case round =>
  clear H';(try clear c1);obtain ⟨x4_1,x5_1,rfl,HA,HK1,HO_4,HB⟩:=hrel;cases gk with
 |zero=>exact absurd HA.out (by simp [runs_Put.l0])
 |succ k1 =>
   have H:=HA.out;clear HA;simp only [runs_Put.l0] at H;by_cases c2 : x5_1 < (l0.length : Int)
   ·rw [if_pos c2] at H;have c2b0 : decide (x5_1 < (l0.length : Int)) = true:=zC c2;clear c2;by_cases c3 : 0 ≤ x5_1
    ·rw [if_pos c3] at H;have c3b0 : decide (0 ≤ x5_1) = true:=zC c3;clear c3;replace H:=Option.bind_eq_some_iff.mp H;obtain ⟨t1114,A40,H⟩:=H;replace H : (if t1114 = true then (runs_Put.l1 k1 l0 x4_1 x5_1 1) else (some (([] : List Int),27))) = some (r1,r2):=H;have A4:=zA A40;clear A40;by_cases c5 : t1114 = true
     ·subst c5;have H1 : (runs_Put.l1 k1 l0 x4_1 x5_1 1) = some (r1,r2):=by rw [if_pos rfl] at H;exact H
      clear H;have H:=H1;clear H1;have HC6:=zA H;clear H;have p1113 : 0 ≤ (x5_1 : Int):=od;have q1113 : x5_1 < (l0.length : Int):=od;obtain ⟨ad1113,e1113,hx1113_0,hx1113_1,hx1113_2⟩:=at_T35 HR0.out x5_1 p1113 q1113;cases e1113;replace hx1113_0:=cx HB hx1113_0;replace hx1113_1:=cx HB hx1113_1;replace hx1113_2:=cx HB hx1113_2;replace p1113:=eq_true p1113;replace q1113:=eq_true q1113;go_upto_block 2 with (((with_reducible refine zI (f:=19) rfl ?_);refine goesL_ (some 17) rfl rfl Try.func19 (by kernel_rfl) rfl #[.agg #[.int .i32 ((rd_T35 l0 x5_1).f0),.int .u16 ((rd_T35 l0 x5_1).f1),.int .u8 ((rd_T35 l0 x5_1).f2)]] rfl (by (try simp only [zS,zT,zU]);rfl) ?_;(with_reducible refine (runs_Right.calls ((rd_T35 l0 x5_1).f0) ((rd_T35 l0 x5_1).f1) ((rd_T35 l0 x5_1).f2) true _ A4.out).mono ?_);rintro e w7 ⟨rfl,hb⟩;refine ⟨_,rfl,?_⟩;have n0_:=zA (Kd.R_below HO_4.out hb);have n1_:=zA (below_step HB.out hb);clear HO_4;clear HB;have HO_4:=n0_;have HB:=n1_;clear n0_ n1_;(try clear hb)))
      go_cut [6] (fun v6 wc=>∃ (kq : Nat) (x6_5 : Int),v6 = .int .i64 x6_5∧Aside0 (runs_Put.j2 kq l0 x4_1 x5_1 x6_5 = some (r1,r2))∧Aside0 (kq ≤ k1)∧Aside0 (Kd.R (Kd.int .u8) 5 wc w.heap.size (fun _=>True) u4 x4_1)∧Aside0 (Below w.heap.size w wc))
      case first =>
       have H:=HC6.out;clear HC6;have H':=zA H;clear H;go_wp2;go_loopg [6] k1 (fun kq v6 w'=>∃ (x6_2 : Int),v6 = .int .i64 x6_2∧Aside0 (runs_Put.l1 kq l0 x4_1 x5_1 x6_2 = some (r1,r2))∧Aside0 (kq ≤ k1)∧Aside0 (Kd.R (Kd.int .u8) 5 w' w.heap.size (fun _=>True) u4 x4_1)∧Aside0 (Below w.heap.size w w'))
       case atStart=>exact ⟨(1),(by rfl),H',⟨Nat.le_refl _⟩,⟨HO_4.out⟩,⟨HB.out⟩⟩
       case round =>
        clear H';(try clear c1);(try clear p1);(try clear q1);(try clear hx1);(try clear c2);(try clear c2b0);(try clear p2);(try clear c3);(try clear c3b0);(try clear c5);(try clear hx1113_0);(try clear hx1113_1);(try clear hx1113_2);(try clear p1113);(try clear q1113);obtain ⟨x6_2,rfl,HA,HK2,HO_4,HB⟩:=hrel;cases gk with
       |zero=>exact absurd HA.out (by simp [runs_Put.l1])
       |succ k2 =>
         have H:=HA.out;clear HA;simp only [runs_Put.l1] at H;by_cases c8 : (wrap64 (x5_1 + x6_2)) < (l0.length : Int)
         ·rw [if_pos c8] at H;have c8b0 : decide ((wrap64 (x5_1 + x6_2)) < (l0.length : Int)) = true:=zC c8;clear c8;obtain ⟨ji9,hji9⟩ : ∃ j_ : Int,(wrap64 (x5_1 + x6_2)) = j_:=⟨_,rfl⟩;replace H : (if 0 ≤ (ji9) then (if 0 ≤ x5_1 then (if x5_1 < (l0.length : Int) then (if (((rd_T35 l0 (ji9)).f0) == ((rd_T35 l0 x5_1).f0) && (((rd_T35 l0 (ji9)).f1) == ((rd_T35 l0 x5_1).f1) && (((rd_T35 l0 (ji9)).f2) == ((rd_T35 l0 x5_1).f2)))) = true then (runs_Put.l1 k2 l0 x4_1 x5_1 (wrap64 (x6_2 + 1))) else (runs_Put.j2 k2 l0 x4_1 x5_1 x6_2)) else (none)) else (none)) else (none)) = some (r1,r2):=by (rw [hji9] at H;exact H)
          (try rw [hji9] at c8b0);have hji9w : (IntKind.i64.wrap (x5_1 + x6_2)) = ji9:=(i64_w _).trans hji9;by_cases c10 : 0 ≤ (ji9)
          ·rw [if_pos c10] at H;have c10b0 : decide (0 ≤ (ji9)) = true:=zC c10;clear c10;by_cases c11 : 0 ≤ x5_1
           ·rw [if_pos c11] at H;have c11b0 : decide (0 ≤ x5_1) = true:=zC c11;clear c11;by_cases c12 : x5_1 < (l0.length : Int)
            ·rw [if_pos c12] at H;have c12b0 : decide (x5_1 < (l0.length : Int)) = true:=zC c12;clear c12;by_cases c13 : (((rd_T35 l0 (ji9)).f0) == ((rd_T35 l0 x5_1).f0) && (((rd_T35 l0 (ji9)).f1) == ((rd_T35 l0 x5_1).f1) && (((rd_T35 l0 (ji9)).f2) == ((rd_T35 l0 x5_1).f2)))) = true
             ·rw [if_pos c13] at H;have c13b0 : (((rd_T35 l0 (ji9)).f0) == ((rd_T35 l0 x5_1).f0) && (((rd_T35 l0 (ji9)).f1) == ((rd_T35 l0 x5_1).f1) && (((rd_T35 l0 (ji9)).f2) == ((rd_T35 l0 x5_1).f2)))) = true:=c13;(try (have c13b1 : decide (((rd_T35 l0 (ji9)).f0) = ((rd_T35 l0 x5_1).f0) && (((rd_T35 l0 (ji9)).f1) == ((rd_T35 l0 x5_1).f1) && (((rd_T35 l0 (ji9)).f2) == ((rd_T35 l0 x5_1).f2)))) = true:=by simpa using c13));(try (have c13b2 : (((rd_T35 l0 (ji9)).f0) == ((rd_T35 l0 x5_1).f0) && (((rd_T35 l0 (ji9)).f1) == ((rd_T35 l0 x5_1).f1) && (((rd_T35 l0 (ji9)).f2) == ((rd_T35 l0 x5_1).f2)))) = true:=by simpa using c13));clear c13;have H':=zA H;clear H;(try go_wp2);have n0_:=zA (Kd.R_drew HO_4.out);have n1_:=zA (below_drew1 HB.out);clear HO_4 HB;have HO_4:=n0_;have HB:=n1_;clear n0_ n1_;have p1115 : 0 ≤ ((ji9) : Int):=od;have q1115 : (ji9) < (l0.length : Int):=od;obtain ⟨ad1115,e1115,hx1115_0,hx1115_1,hx1115_2⟩:=at_T35 HR0.out (ji9) p1115 q1115;have hw1115_2:=hx1115_2;have hw1115_1:=hx1115_1;have hw1115_0:=hx1115_0;obtain rfl : ad1113 = ad1115:=(by injection e1115);replace hx1115_0:=cx HB hx1115_0;replace hx1115_1:=cx HB hx1115_1;replace hx1115_2:=cx HB hx1115_2;replace p1115:=eq_true p1115;replace q1115:=eq_true q1115;have p1116 : 0 ≤ (x5_1 : Int):=od;have q1116 : x5_1 < (l0.length : Int):=od;obtain ⟨ad1116,e1116,hx1116_0,hx1116_1,hx1116_2⟩:=at_T35 HR0.out x5_1 p1116 q1116;have hw1116_2:=hx1116_2;have hw1116_1:=hx1116_1;have hw1116_0:=hx1116_0;obtain rfl : ad1113 = ad1116:=(by injection e1116);replace hx1116_0:=cx HB hx1116_0;replace hx1116_1:=cx HB hx1116_1;replace hx1116_2:=cx HB hx1116_2;replace p1116:=eq_true p1116;replace q1116:=eq_true q1116;refine start_ (n:=19) (S:=fun w'=>w'.cell? (ad1113.add (((ji9)).toNat * 3)) = some (.int .i32 ((rd_T35 l0 (ji9)).f0))∧w'.cell? ⟨(ad1113.add (((ji9)).toNat * 3)).block,(ad1113.add (((ji9)).toNat * 3)).off + 1,none⟩ = some (.int .u16 ((rd_T35 l0 (ji9)).f1))∧w'.cell? ⟨(ad1113.add (((ji9)).toNat * 3)).block,(ad1113.add (((ji9)).toNat * 3)).off + 2,none⟩ = some (.int .u8 ((rd_T35 l0 (ji9)).f2))∧w'.cell? (ad1113.add ((x5_1).toNat * 3)) = some (.int .i32 ((rd_T35 l0 x5_1).f0))∧w'.cell? ⟨(ad1113.add ((x5_1).toNat * 3)).block,(ad1113.add ((x5_1).toNat * 3)).off + 1,none⟩ = some (.int .u16 ((rd_T35 l0 x5_1).f1))∧w'.cell? ⟨(ad1113.add ((x5_1).toNat * 3)).block,(ad1113.add ((x5_1).toNat * 3)).off + 2,none⟩ = some (.int .u8 ((rd_T35 l0 x5_1).f2))) (ds:=[]) (tk 19 0) (by kernel_rfl) rfl rfl ⟨((HB.out.cell (World.block_lt_of_cell? w _ hw1115_0)).trans hw1115_0),((HB.out.cell (World.block_lt_of_cell? w _ hw1115_1)).trans hw1115_1),((HB.out.cell (World.block_lt_of_cell? w _ hw1115_2)).trans hw1115_2),((HB.out.cell (World.block_lt_of_cell? w _ hw1116_0)).trans hw1116_0),((HB.out.cell (World.block_lt_of_cell? w _ hw1116_1)).trans hw1116_1),((HB.out.cell (World.block_lt_of_cell? w _ hw1116_2)).trans hw1116_2)⟩ (fun hHeld=>?_);refine with_tabW runs_Put.tab7 runs_Put.bits7 (fun HT_ HW_=>?_);generalize wr.drew = w14 at HO_4 HB hx1115_0 hx1115_1 hx1115_2 hx1116_0 hx1116_1 hx1116_2 hHeld ⊢;refine pGo [(0,some 19),(1,some 20),(2,some 21),(3,some 22),(4,some 23),(5,some 24),(6,some 25),(7,some 26),(8,some 27),(9,some 28),(10,some 29),(11,some 30),(13,some 32),(14,some 33),(15,some 34)] ?_;iterate 15 (refine pA (v:=?_) (a':=?_) rfl rfl (any_of HT_.out (by kernel_rfl)) (fun _ _ _ h=>h) (Or.inl ⟨by rfl,?_⟩) ?_ ?_;rotate_left;(· intro w';go_simp;with_reducible rfl);rotate_left;(· simp only [Act.put,zP,zQ,zR,i64_w,i32_w];rfl))
              refine pEnd ?_;refine take_ (i:=12) (N:=some 31) (v:=?_) (a':=?_) (tk 19 16) rfl rfl (take_ofW HT_.out HW_.out (by kernel_rfl)) (fun _ _ _ h=>h) (Or.inl ⟨by rfl,?_⟩) hHeld ?_ ?_;rotate_left
              ·rintro w' ⟨s0,s1,s2,s3,s4,s5⟩
               go_simp;(with_reducible rfl)
              rotate_left
              ·simp only [Act.put,zP,zQ,zR,i64_w,i32_w];rfl
              refine take_ (i:=16) (N:=some 35) (v:=?_) (a':=?_) (tk 19 17) rfl rfl (take_ofW HT_.out HW_.out (by kernel_rfl)) (fun _ _ _ h=>h) (Or.inl ⟨by rfl,?_⟩) hHeld ?_ ?_;rotate_left
              ·rintro w' ⟨s0,s1,s2,s3,s4,s5⟩
               go_simp;(with_reducible rfl)
              rotate_left
              ·simp only [Act.put,zP,zQ,zR,i64_w,i32_w];rfl
              refine pGo [(17,some 36),(18,some 37)] ?_;iterate 2 (refine pA (v:=?_) (a':=?_) rfl rfl (any_of HT_.out (by kernel_rfl)) (fun _ _ _ h=>h) (Or.inl ⟨by rfl,?_⟩) ?_ ?_;rotate_left;(· intro w';go_simp;with_reducible rfl);rotate_left;(· simp only [Act.put,zP,zQ,zR,i64_w,i32_w];rfl))
              refine pEnd ?_;refine done_ (done_of HT_.out (by kernel_rfl)) ?_;(try go_wp2);go_roundg k2
              case measure=>have:=HK1.out;have:=HK2.out;omega
              case rel=>exact ⟨(wrap64 (x6_2 + 1)),(by rfl),H',⟨by have:=HK1.out;have:=HK2.out;omega⟩,⟨HO_4.out⟩,⟨HB.out⟩⟩
             ·rw [if_neg c13] at H;have c13b0 : (((rd_T35 l0 (ji9)).f0) == ((rd_T35 l0 x5_1).f0) && (((rd_T35 l0 (ji9)).f1) == ((rd_T35 l0 x5_1).f1) && (((rd_T35 l0 (ji9)).f2) == ((rd_T35 l0 x5_1).f2)))) = false:=by simpa using c13
              (try (have c13b1 : decide (((rd_T35 l0 (ji9)).f0) = ((rd_T35 l0 x5_1).f0) && (((rd_T35 l0 (ji9)).f1) == ((rd_T35 l0 x5_1).f1) && (((rd_T35 l0 (ji9)).f2) == ((rd_T35 l0 x5_1).f2)))) = false:=by simpa using c13));(try (have c13b2 : (((rd_T35 l0 (ji9)).f0) == ((rd_T35 l0 x5_1).f0) && (((rd_T35 l0 (ji9)).f1) == ((rd_T35 l0 x5_1).f1) && (((rd_T35 l0 (ji9)).f2) == ((rd_T35 l0 x5_1).f2)))) = false:=by simpa using c13));(try (have c13b3 : ¬ (((rd_T35 l0 (ji9)).f0) = ((rd_T35 l0 x5_1).f0) && (((rd_T35 l0 (ji9)).f1) == ((rd_T35 l0 x5_1).f1) && (((rd_T35 l0 (ji9)).f2) == ((rd_T35 l0 x5_1).f2)))):=by simpa using c13));clear c13;have H':=zA H;clear H;(try go_wp2);have n0_:=zA (Kd.R_drew HO_4.out);have n1_:=zA (below_drew1 HB.out);clear HO_4 HB;have HO_4:=n0_;have HB:=n1_;clear n0_ n1_;have p1115 : 0 ≤ ((ji9) : Int):=od;have q1115 : (ji9) < (l0.length : Int):=od;obtain ⟨ad1115,e1115,hx1115_0,hx1115_1,hx1115_2⟩:=at_T35 HR0.out (ji9) p1115 q1115;have hw1115_2:=hx1115_2;have hw1115_1:=hx1115_1;have hw1115_0:=hx1115_0;obtain rfl : ad1113 = ad1115:=(by injection e1115);replace hx1115_0:=cx HB hx1115_0;replace hx1115_1:=cx HB hx1115_1;replace hx1115_2:=cx HB hx1115_2;replace p1115:=eq_true p1115;replace q1115:=eq_true q1115;have p1116 : 0 ≤ (x5_1 : Int):=od;have q1116 : x5_1 < (l0.length : Int):=od;obtain ⟨ad1116,e1116,hx1116_0,hx1116_1,hx1116_2⟩:=at_T35 HR0.out x5_1 p1116 q1116;have hw1116_2:=hx1116_2;have hw1116_1:=hx1116_1;have hw1116_0:=hx1116_0;obtain rfl : ad1113 = ad1116:=(by injection e1116);replace hx1116_0:=cx HB hx1116_0;replace hx1116_1:=cx HB hx1116_1;replace hx1116_2:=cx HB hx1116_2;replace p1116:=eq_true p1116;replace q1116:=eq_true q1116;refine start_ (n:=19) (S:=fun w'=>w'.cell? (ad1113.add (((ji9)).toNat * 3)) = some (.int .i32 ((rd_T35 l0 (ji9)).f0))∧w'.cell? ⟨(ad1113.add (((ji9)).toNat * 3)).block,(ad1113.add (((ji9)).toNat * 3)).off + 1,none⟩ = some (.int .u16 ((rd_T35 l0 (ji9)).f1))∧w'.cell? ⟨(ad1113.add (((ji9)).toNat * 3)).block,(ad1113.add (((ji9)).toNat * 3)).off + 2,none⟩ = some (.int .u8 ((rd_T35 l0 (ji9)).f2))∧w'.cell? (ad1113.add ((x5_1).toNat * 3)) = some (.int .i32 ((rd_T35 l0 x5_1).f0))∧w'.cell? ⟨(ad1113.add ((x5_1).toNat * 3)).block,(ad1113.add ((x5_1).toNat * 3)).off + 1,none⟩ = some (.int .u16 ((rd_T35 l0 x5_1).f1))∧w'.cell? ⟨(ad1113.add ((x5_1).toNat * 3)).block,(ad1113.add ((x5_1).toNat * 3)).off + 2,none⟩ = some (.int .u8 ((rd_T35 l0 x5_1).f2))) (ds:=[]) (tk 19 0) (by kernel_rfl) rfl rfl ⟨((HB.out.cell (World.block_lt_of_cell? w _ hw1115_0)).trans hw1115_0),((HB.out.cell (World.block_lt_of_cell? w _ hw1115_1)).trans hw1115_1),((HB.out.cell (World.block_lt_of_cell? w _ hw1115_2)).trans hw1115_2),((HB.out.cell (World.block_lt_of_cell? w _ hw1116_0)).trans hw1116_0),((HB.out.cell (World.block_lt_of_cell? w _ hw1116_1)).trans hw1116_1),((HB.out.cell (World.block_lt_of_cell? w _ hw1116_2)).trans hw1116_2)⟩ (fun hHeld=>?_);refine with_tabW runs_Put.tab7 runs_Put.bits7 (fun HT_ HW_=>?_);generalize wr.drew = w15 at HO_4 HB hx1115_0 hx1115_1 hx1115_2 hx1116_0 hx1116_1 hx1116_2 hHeld ⊢;refine pGo [(0,some 19),(1,some 20),(2,some 21),(3,some 22),(4,some 23),(5,some 24),(6,some 25),(7,some 26),(8,some 27),(9,some 28),(10,some 29),(11,some 30),(13,some 32),(14,some 33),(15,some 34)] ?_;iterate 15 (refine pA (v:=?_) (a':=?_) rfl rfl (any_of HT_.out (by kernel_rfl)) (fun _ _ _ h=>h) (Or.inl ⟨by rfl,?_⟩) ?_ ?_;rotate_left;(· intro w';go_simp;with_reducible rfl);rotate_left;(· simp only [Act.put,zP,zQ,zR,i64_w,i32_w];rfl))
              refine pEnd ?_;refine take_ (i:=12) (N:=some 31) (v:=?_) (a':=?_) (tk 19 16) rfl rfl (take_ofW HT_.out HW_.out (by kernel_rfl)) (fun _ _ _ h=>h) (Or.inl ⟨by rfl,?_⟩) hHeld ?_ ?_;rotate_left
              ·rintro w' ⟨s0,s1,s2,s3,s4,s5⟩
               go_simp;(with_reducible rfl)
              rotate_left
              ·simp only [Act.put,zP,zQ,zR,i64_w,i32_w];rfl
              refine take_ (i:=16) (N:=some 35) (v:=?_) (a':=?_) (tk 19 17) rfl rfl (take_ofW HT_.out HW_.out (by kernel_rfl)) (fun _ _ _ h=>h) (Or.inl ⟨by rfl,?_⟩) hHeld ?_ ?_;rotate_left
              ·rintro w' ⟨s0,s1,s2,s3,s4,s5⟩
               go_simp;(with_reducible rfl)
              rotate_left
              ·simp only [Act.put,zP,zQ,zR,i64_w,i32_w];rfl
              refine pGo [(17,some 36),(18,some 37)] ?_;iterate 2 (refine pA (v:=?_) (a':=?_) rfl rfl (any_of HT_.out (by kernel_rfl)) (fun _ _ _ h=>h) (Or.inl ⟨by rfl,?_⟩) ?_ ?_;rotate_left;(· intro w';go_simp;with_reducible rfl);rotate_left;(· simp only [Act.put,zP,zQ,zR,i64_w,i32_w];rfl))
              refine pEnd ?_;refine done_ (done_of HT_.out (by kernel_rfl)) ?_;(try go_wp2);go_meet
              case rel=>exact ⟨_,(x6_2),(by rfl),H',⟨by have:=HK1.out;have:=HK2.out;omega⟩,⟨HO_4.out⟩,⟨HB.out⟩⟩
            ·rw [if_neg c12] at H;exact absurd H (by simp)
           ·rw [if_neg c11] at H;exact absurd H (by simp)
          ·rw [if_neg c10] at H;exact absurd H (by simp)
         ·rw [if_neg c8] at H;have c8b0 : decide ((wrap64 (x5_1 + x6_2)) < (l0.length : Int)) = false:=zD c8;clear c8;have H':=zA H;clear H;(try go_wp2);have n0_:=zA (Kd.R_drew HO_4.out);have n1_:=zA (below_drew1 HB.out);clear HO_4 HB;have HO_4:=n0_;have HB:=n1_;clear n0_ n1_;refine start_ (n:=19) (S:=fun w'=>True) (ds:=[]) (tk 19 0) (by kernel_rfl) rfl rfl trivial (fun hHeld=>?_);refine with_tabW runs_Put.tab7 runs_Put.bits7 (fun HT_ HW_=>?_);generalize wr.drew = w16 at HO_4 HB hHeld ⊢;refine pGo [(0,some 19),(1,some 20),(2,some 21),(3,some 22),(4,some 23),(5,some 24),(6,some 25),(7,some 26),(8,some 27),(9,some 28),(10,some 29),(11,some 30),(12,some 31),(13,some 32),(14,some 33),(15,some 34),(16,some 35),(17,some 36),(18,some 37)] ?_;iterate 7 (refine pA (v:=?_) (a':=?_) rfl rfl (any_of HT_.out (by kernel_rfl)) (fun _ _ _ h=>h) (Or.inl ⟨by rfl,?_⟩) ?_ ?_;rotate_left;(· intro w';go_simp;with_reducible rfl);rotate_left;(· simp only [Act.put,zP,zQ,zR,i64_w,i32_w];rfl))
          iterate 11 (refine pA (v:=undef) (a':=?_) rfl rfl (any_of HT_.out (by kernel_rfl)) (fun _ _ _ h=>h) (Or.inr ⟨by rfl,rfl⟩) ?_ ?_;rotate_left;(· simp only [Act.put,zP,zQ,zR,i64_w,i32_w];rfl))
          (refine pA (v:=?_) (a':=?_) rfl rfl (any_of HT_.out (by kernel_rfl)) (fun _ _ _ h=>h) (Or.inl ⟨by rfl,?_⟩) ?_ ?_;rotate_left;(· intro w';go_simp;with_reducible rfl);rotate_left;(· simp only [Act.put,zP,zQ,zR,i64_w,i32_w];rfl))
          refine pEnd ?_;refine done_ (done_of HT_.out (by kernel_rfl)) ?_;(try go_wp2);go_meet
          case rel=>exact ⟨_,(x6_2),(by rfl),H',⟨by have:=HK1.out;have:=HK2.out;omega⟩,⟨HO_4.out⟩,⟨HB.out⟩⟩
      case rest =>
       clear HC6;(try clear c1);(try clear p1);(try clear q1);(try clear hx1);(try clear c2);(try clear c2b0);(try clear p2);(try clear c3);(try clear c3b0);(try clear c5);(try clear p6);(try clear c8);(try clear c8b0);(try clear c10);(try clear c10b0);(try clear c11);(try clear c11b0);(try clear p11);(try clear q11);(try clear hx11);(try clear c12);(try clear c12b0);(try clear c13);(try clear c13b0);(try clear c13b1);(try clear c13b2);(try clear hx1113_0);(try clear hx1113_1);(try clear hx1113_2);(try clear hx1115_0);(try clear hx1115_1);(try clear hx1115_2);(try clear hx1116_0);(try clear hx1116_1);(try clear hx1116_2);(try clear p1);(try clear p1113);(try clear p1115);(try clear p1116);(try clear p2);(try clear q1);(try clear q1113);(try clear q1115);(try clear q1116);obtain ⟨kq,x6_5,rfl,HA,HJ5,HO_4,HB⟩:=hcut;cases kq with
      |zero=>exact absurd HA.out (by simp [runs_Put.j2])
      |succ kj5 =>
        have H:=HA.out;clear HA;simp only [runs_Put.j2] at H;by_cases c17 : 0 ≤ x5_1
        ·rw [if_pos c17] at H;have c17b0 : decide (0 ≤ x5_1) = true:=zC c17;clear c17;by_cases c18 : x5_1 < (l0.length : Int)
         ·rw [if_pos c18] at H;have c18b0 : decide (x5_1 < (l0.length : Int)) = true:=zC c18;clear c18;obtain ⟨y1120,hy1120⟩ : ∃ y_ : List Int,y_ = (([IntKind.u64.wrap (x6_5),IntKind.u64.wrap ((rd_T35 l0 x5_1).f0),Go.bits .or .u64 (IntKind.u64.wrap ((IntKind.u64.wrap ((rd_T35 l0 x5_1).f1)) * 4)) (IntKind.u64.wrap ((rd_T35 l0 x5_1).f2))] : List Int)):=⟨_,rfl⟩;replace H : (runs_Put.l2 kj5 l0 x4_1 x5_1 x6_5 y1120 (y1120.length : Int) 0) = some (r1,r2):=by (have H2_:=(zX _ _).symm.trans H;rw [hy1120];with_reducible exact H2_)
          have Ny1120:=zA hy1120;clear hy1120;have H':=zA H;clear H;(try go_wp2);have n0_:=zA (Kd.R_drew HO_4.out);have n1_:=zA (below_drew1 HB.out);clear HO_4 HB;have HO_4:=n0_;have HB:=n1_;clear n0_ n1_;have p1117 : 0 ≤ (x5_1 : Int):=od;have q1117 : x5_1 < (l0.length : Int):=od;obtain ⟨ad1117,e1117,hx1117_0,hx1117_1,hx1117_2⟩:=at_T35 HR0.out x5_1 p1117 q1117;have hw1117_2:=hx1117_2;have hw1117_1:=hx1117_1;have hw1117_0:=hx1117_0;obtain rfl : ad1113 = ad1117:=(by injection e1117);replace hx1117_0:=cx HB hx1117_0;replace hx1117_1:=cx HB hx1117_1;replace hx1117_2:=cx HB hx1117_2;replace p1117:=eq_true p1117;replace q1117:=eq_true q1117;have p1118 : 0 ≤ (x5_1 : Int):=od;have q1118 : x5_1 < (l0.length : Int):=od;obtain ⟨ad1118,e1118,hx1118_0,hx1118_1,hx1118_2⟩:=at_T35 HR0.out x5_1 p1118 q1118;have hw1118_2:=hx1118_2;have hw1118_1:=hx1118_1;have hw1118_0:=hx1118_0;obtain rfl : ad1113 = ad1118:=(by injection e1118);replace hx1118_0:=cx HB hx1118_0;replace hx1118_1:=cx HB hx1118_1;replace hx1118_2:=cx HB hx1118_2;replace p1118:=eq_true p1118;replace q1118:=eq_true q1118;have p1119 : 0 ≤ (x5_1 : Int):=od;have q1119 : x5_1 < (l0.length : Int):=od;obtain ⟨ad1119,e1119,hx1119_0,hx1119_1,hx1119_2⟩:=at_T35 HR0.out x5_1 p1119 q1119;have hw1119_2:=hx1119_2;have hw1119_1:=hx1119_1;have hw1119_0:=hx1119_0;obtain rfl : ad1113 = ad1119:=(by injection e1119);replace hx1119_0:=cx HB hx1119_0;replace hx1119_1:=cx HB hx1119_1;replace hx1119_2:=cx HB hx1119_2;replace p1119:=eq_true p1119;replace q1119:=eq_true q1119;refine start_ (n:=25) (S:=fun w'=>w'.cell? (ad1113.add ((x5_1).toNat * 3)) = some (.int .i32 ((rd_T35 l0 x5_1).f0))∧w'.cell? ⟨(ad1113.add ((x5_1).toNat * 3)).block,(ad1113.add ((x5_1).toNat * 3)).off + 1,none⟩ = some (.int .u16 ((rd_T35 l0 x5_1).f1))∧w'.cell? ⟨(ad1113.add ((x5_1).toNat * 3)).block,(ad1113.add ((x5_1).toNat * 3)).off + 2,none⟩ = some (.int .u8 ((rd_T35 l0 x5_1).f2))∧w'.cell? (ad1113.add ((x5_1).toNat * 3)) = some (.int .i32 ((rd_T35 l0 x5_1).f0))∧w'.cell? ⟨(ad1113.add ((x5_1).toNat * 3)).block,(ad1113.add ((x5_1).toNat * 3)).off + 1,none⟩ = some (.int .u16 ((rd_T35 l0 x5_1).f1))∧w'.cell? ⟨(ad1113.add ((x5_1).toNat * 3)).block,(ad1113.add ((x5_1).toNat * 3)).off + 2,none⟩ = some (.int .u8 ((rd_T35 l0 x5_1).f2))∧w'.cell? (ad1113.add ((x5_1).toNat * 3)) = some (.int .i32 ((rd_T35 l0 x5_1).f0))∧w'.cell? ⟨(ad1113.add ((x5_1).toNat * 3)).block,(ad1113.add ((x5_1).toNat * 3)).off + 1,none⟩ = some (.int .u16 ((rd_T35 l0 x5_1).f1))∧w'.cell? ⟨(ad1113.add ((x5_1).toNat * 3)).block,(ad1113.add ((x5_1).toNat * 3)).off + 2,none⟩ = some (.int .u8 ((rd_T35 l0 x5_1).f2))) (ds:=[]) (tk 25 0) (by kernel_rfl) rfl rfl ⟨((HB.out.cell (World.block_lt_of_cell? w _ hw1117_0)).trans hw1117_0),((HB.out.cell (World.block_lt_of_cell? w _ hw1117_1)).trans hw1117_1),((HB.out.cell (World.block_lt_of_cell? w _ hw1117_2)).trans hw1117_2),((HB.out.cell (World.block_lt_of_cell? w _ hw1118_0)).trans hw1118_0),((HB.out.cell (World.block_lt_of_cell? w _ hw1118_1)).trans hw1118_1),((HB.out.cell (World.block_lt_of_cell? w _ hw1118_2)).trans hw1118_2),((HB.out.cell (World.block_lt_of_cell? w _ hw1119_0)).trans hw1119_0),((HB.out.cell (World.block_lt_of_cell? w _ hw1119_1)).trans hw1119_1),((HB.out.cell (World.block_lt_of_cell? w _ hw1119_2)).trans hw1119_2)⟩ (fun hHeld=>?_);refine with_tabW runs_Put.tab9 runs_Put.bits9 (fun HT_ HW_=>?_);generalize wc.drew = w19 at HO_4 HB hx1117_0 hx1117_1 hx1117_2 hx1118_0 hx1118_1 hx1118_2 hx1119_0 hx1119_1 hx1119_2 hHeld ⊢;refine pGo [(0,some 40),(1,some 41),(2,some 42),(3,some 43),(4,some 44),(5,some 45),(8,some 48),(9,some 49),(10,some 50),(11,some 51),(15,some 55),(16,some 56),(17,some 57),(18,some 58),(24,some 64)] ?_;iterate 15 (refine pA (v:=?_) (a':=?_) rfl rfl (any_of HT_.out (by kernel_rfl)) (fun _ _ _ h=>h) (Or.inl ⟨by rfl,?_⟩) ?_ ?_;rotate_left;(· intro w';go_simp;with_reducible rfl);rotate_left;(· simp only [Act.put,zP,zQ,zR,i64_w,i32_w];rfl))
          refine pEnd ?_;refine take_ (i:=6) (N:=some 46) (v:=?_) (a':=?_) #[true,true,true,true,true,true,true,false,true,true,true,true,false,false,false,true,true,true,true,false,false,false,false,false,true] rfl rfl (take_ofW HT_.out HW_.out (by kernel_rfl)) (fun _ _ _ h=>h) (Or.inl ⟨by rfl,?_⟩) hHeld ?_ ?_;rotate_left
          ·rintro w' ⟨s0,s1,s2,s3,s4,s5,s6,s7,s8⟩
           go_simp;(with_reducible rfl)
          rotate_left
          ·simp only [Act.put,zP,zQ,zR,i64_w,i32_w];rfl
          refine pGo [(7,some 47)] ?_;(refine pA (v:=?_) (a':=?_) rfl rfl (any_of HT_.out (by kernel_rfl)) (fun _ _ _ h=>h) (Or.inl ⟨by rfl,?_⟩) ?_ ?_;rotate_left;(· intro w';go_simp;with_reducible rfl);rotate_left;(· simp only [Act.put,zP,zQ,zR,i64_w,i32_w];rfl))
          refine pEnd ?_;refine take_ (i:=12) (N:=some 52) (v:=?_) (a':=?_) #[true,true,true,true,true,true,true,true,true,true,true,true,true,false,false,true,true,true,true,false,false,false,false,false,true] rfl rfl (take_ofW HT_.out HW_.out (by kernel_rfl)) (fun _ _ _ h=>h) (Or.inl ⟨by rfl,?_⟩) hHeld ?_ ?_;rotate_left
          ·rintro w' ⟨s0,s1,s2,s3,s4,s5,s6,s7,s8⟩
           go_simp;(with_reducible rfl)
          rotate_left
          ·simp only [Act.put,zP,zQ,zR,i64_w,i32_w];rfl
          refine pGo [(13,some 53),(14,some 54)] ?_;iterate 2 (refine pA (v:=?_) (a':=?_) rfl rfl (any_of HT_.out (by kernel_rfl)) (fun _ _ _ h=>h) (Or.inl ⟨by rfl,?_⟩) ?_ ?_;rotate_left;(· intro w';go_simp;with_reducible rfl);rotate_left;(· simp only [Act.put,zP,zQ,zR,i64_w,i32_w];rfl))
          refine pEnd ?_;refine take_ (i:=19) (N:=some 59) (v:=?_) (a':=?_) #[true,true,true,true,true,true,true,true,true,true,true,true,true,true,true,true,true,true,true,true,false,false,false,false,true] rfl rfl (take_ofW HT_.out HW_.out (by kernel_rfl)) (fun _ _ _ h=>h) (Or.inl ⟨by rfl,?_⟩) hHeld ?_ ?_;rotate_left
          ·rintro w' ⟨s0,s1,s2,s3,s4,s5,s6,s7,s8⟩
           go_simp;(with_reducible rfl)
          rotate_left
          ·simp only [Act.put,zP,zQ,zR,i64_w,i32_w];rfl
          refine pGo [(20,some 60),(21,some 61)] ?_;iterate 2 (refine pA (v:=?_) (a':=?_) rfl rfl (any_of HT_.out (by kernel_rfl)) (fun _ _ _ h=>h) (Or.inl ⟨by rfl,?_⟩) ?_ ?_;rotate_left;(· intro w';go_simp;with_reducible rfl);rotate_left;(· simp only [Act.put,zP,zQ,zR,i64_w,i32_w];rfl))
          refine pEnd ?_;refine one_ (i:=22) (N:=some 62) #[true,true,true,true,true,true,true,true,true,true,true,true,true,true,true,true,true,true,true,true,true,true,true,false,true] rfl rfl (one_of HT_.out (by kernel_rfl)) (by decide) (fun K hK=>?_);refine Kd.R_lit_step (Kd.int .u64) _ 69 ?hg (N:=62) ?hd (xs:=([IntKind.u64.wrap (x6_5),IntKind.u64.wrap ((rd_T35 l0 x5_1).f0),Go.bits .or .u64 (IntKind.u64.wrap ((IntKind.u64.wrap ((rd_T35 l0 x5_1).f1)) * 4)) (IntKind.u64.wrap ((rd_T35 l0 x5_1).f2))] : List Int)) (inner:=[.int .u64 (IntKind.u64.wrap (x6_5)),.int .u64 (IntKind.u64.wrap ((rd_T35 l0 x5_1).f0)),.int .u64 (Go.bits .or .u64 (IntKind.u64.wrap ((IntKind.u64.wrap ((rd_T35 l0 x5_1).f1)) * 4)) (IntKind.u64.wrap ((rd_T35 l0 x5_1).f2)))]) (ok:=fun _=>True) (okp:=fun _=>True) ?hr ?hp (fun _ hk=>hk) trivial (zE _ _) (Nat.le_refl _) (by simp) ?_;(case hd=>rfl);(case hg=>rfl);(case hr=>(go_simp;done));(case hp=>exact (Reps.one (show Kd.M (Kd.int .u64) _ _ _ (IntKind.u64.wrap (x6_5)) [.int .u64 (IntKind.u64.wrap (x6_5))] from rfl) (Reps.one (show Kd.M (Kd.int .u64) _ _ _ (IntKind.u64.wrap ((rd_T35 l0 x5_1).f0)) [.int .u64 (IntKind.u64.wrap ((rd_T35 l0 x5_1).f0))] from rfl) (Reps.one (show Kd.M (Kd.int .u64) _ _ _ (Go.bits .or .u64 (IntKind.u64.wrap ((IntKind.u64.wrap ((rd_T35 l0 x5_1).f1)) * 4)) (IntKind.u64.wrap ((rd_T35 l0 x5_1).f2))) [.int .u64 (Go.bits .or .u64 (IntKind.u64.wrap ((IntKind.u64.wrap ((rd_T35 l0 x5_1).f1)) * 4)) (IntKind.u64.wrap ((rd_T35 l0 x5_1).f2)))] from rfl) (Reps.none _ _)))));intro v1121 w20 ho21 hb hg_ hnew_;clear hg_ hnew_;(rw [← Ny1120.out] at ho21)
          have n0_:=zA (Kd.R_below HO_4.out hb);have n1_:=zA (Kd.R_lower ho21 (below_size HB.out));have n2_:=zA (below_step HB.out hb);clear HO_4 HB;have HO_4:=n0_;have HO1122:=n1_;have HB:=n2_;clear n0_ n1_ n2_ hb ho21;obtain ⟨Ao22,co22,eo22⟩:=Kd.R_slice HO1122.out;(subst eo22)
          refine hK.out _ _ ⟨((HB.out.cell (World.block_lt_of_cell? w _ hw1117_0)).trans hw1117_0),((HB.out.cell (World.block_lt_of_cell? w _ hw1117_1)).trans hw1117_1),((HB.out.cell (World.block_lt_of_cell? w _ hw1117_2)).trans hw1117_2),((HB.out.cell (World.block_lt_of_cell? w _ hw1118_0)).trans hw1118_0),((HB.out.cell (World.block_lt_of_cell? w _ hw1118_1)).trans hw1118_1),((HB.out.cell (World.block_lt_of_cell? w _ hw1118_2)).trans hw1118_2),((HB.out.cell (World.block_lt_of_cell? w _ hw1119_0)).trans hw1119_0),((HB.out.cell (World.block_lt_of_cell? w _ hw1119_1)).trans hw1119_1),((HB.out.cell (World.block_lt_of_cell? w _ hw1119_2)).trans hw1119_2)⟩ (fun hHeld=>?_);clear hK K;refine norm_ (a':=?_) ?_ ?_;rotate_left
          ·show Act.put _ (some 62) _ = _
           simp only [Act.put,zP,zQ,zR,i64_w,i32_w];rfl
          refine pGo [(23,some 63)] ?_;(refine pA (v:=?_) (a':=?_) rfl rfl (any_of HT_.out (by kernel_rfl)) (fun _ _ _ h=>h) (Or.inl ⟨by rfl,?_⟩) ?_ ?_;rotate_left;(· intro w';go_simp;with_reducible rfl);rotate_left;(· simp only [Act.put,zP,zQ,zR,i64_w,i32_w];rfl))
          refine pEnd ?_;refine done_ (done_of HT_.out (by kernel_rfl)) ?_;(try go_wp2);go_loopg [4,64] kj5 (fun kq v4 v64 w'=>∃ (x4_3 : List Int) (x64_3 : Int),v64 = .int .i64 x64_3∧Aside0 (runs_Put.l2 kq l0 x4_3 x5_1 x6_5 y1120 (y1120.length : Int) x64_3 = some (r1,r2))∧Aside0 (kq ≤ kj5)∧Aside0 (Kd.R (Kd.int .u8) 5 w' w.heap.size (fun _=>True) v4 x4_3)∧Aside0 (Kd.R (Kd.int .u64) 69 w' w.heap.size (fun _=>True) (.slice Ao22 y1120.length co22) y1120)∧Aside0 (Below w.heap.size w w'))
          case atStart=>exact ⟨(x4_1),(0),(by rfl),H',⟨Nat.le_refl _⟩,⟨HO_4.out⟩,⟨HO1122.out⟩,⟨HB.out⟩⟩
          case round =>
           clear H';(try clear c1);(try clear p1);(try clear q1);(try clear hx1);(try clear c2);(try clear c2b0);(try clear p2);(try clear c3);(try clear c3b0);(try clear c5);(try clear p6);(try clear c8);(try clear c8b0);(try clear c10);(try clear c10b0);(try clear c11);(try clear c11b0);(try clear p11);(try clear q11);(try clear hx11);(try clear c12);(try clear c12b0);(try clear c13);(try clear c13b0);(try clear c13b1);(try clear c13b2);(try clear c17);(try clear c17b0);(try clear c18);(try clear c18b0);(try clear hx1113_0);(try clear hx1113_1);(try clear hx1113_2);(try clear hx1115_0);(try clear hx1115_1);(try clear hx1115_2);(try clear hx1116_0);(try clear hx1116_1);(try clear hx1116_2);(try clear hx1117_0);(try clear hx1117_1);(try clear hx1117_2);(try clear hx1118_0);(try clear hx1118_1);(try clear hx1118_2);(try clear hx1119_0);(try clear hx1119_1);(try clear hx1119_2);(try clear p1);(try clear p11);(try clear p1113);(try clear p1115);(try clear p1116);(try clear p1117);(try clear p1118);(try clear p1119);(try clear p2);(try clear p6);(try clear q1);(try clear q11);(try clear q1113);(try clear q1115);(try clear q1116);(try clear q1117);(try clear q1118);(try clear q1119);obtain ⟨x4_3,x64_3,rfl,HA,HK3,HO_4,HO_62,HB⟩:=hrel;cases gk with
          |zero=>exact absurd HA.out (by simp [runs_Put.l2])
          |succ k3 =>
            have H:=HA.out;clear HA;simp only [runs_Put.l2] at H;by_cases c23 : x64_3 < (y1120.length : Int)
            ·rw [if_pos c23] at H;have c23b0 : decide (x64_3 < (y1120.length : Int)) = true:=zC c23;clear c23;by_cases c24 : 0 ≤ x64_3
             ·rw [if_pos c24] at H;have c24b0 : decide (0 ≤ x64_3) = true:=zC c24;clear c24;by_cases c25 : x64_3 < (y1120.length : Int)
              ·rw [if_pos c25] at H;have c25b0 : decide (x64_3 < (y1120.length : Int)) = true:=zC c25;clear c25;replace H:=Option.bind_eq_some_iff.mp H;obtain ⟨t1124,A260,H⟩:=H;replace H : (if x4_3.length + t1124.length < 140737488355328 then (runs_Put.l2 k3 l0 (x4_3 ++ t1124) x5_1 x6_5 y1120 (y1120.length : Int) (wrap64 (x64_3 + 1))) else (none)) = some (r1,r2):=H;have A26:=zA A260;clear A260;by_cases c27 : x4_3.length + t1124.length < 140737488355328
               ·rw [if_pos c27] at H;have LMc27:=zA c27;clear c27;obtain ⟨y1127,hy1127⟩ : ∃ y_ : List Int,y_ = (x4_3 ++ t1124):=⟨_,rfl⟩;replace H : (runs_Put.l2 k3 l0 y1127 x5_1 x6_5 y1120 (y1120.length : Int) (wrap64 (x64_3 + 1))) = some (r1,r2):=by (rw [hy1127];with_reducible exact H)
                have Ny1127:=zA hy1127;clear hy1127;have H':=zA H;clear H;have p1123 : 0 ≤ (x64_3 : Int):=od;have q1123 : x64_3 < (y1120.length : Int):=od;obtain ⟨ad1123,e1123,hx1123_0⟩:=Kd.at_int (Kd.R_reads' HO_62.out).2.2 x64_3 p1123 q1123;cases e1123;replace p1123:=eq_true p1123;replace q1123:=eq_true q1123;go_wp2_with (first|((with_reducible refine zI (f:=46) rfl ?_);refine goesL_ (some 70) rfl rfl Try.func46 (by kernel_rfl) rfl #[.int .u64 (rd y1120 x64_3)] rfl (by (try simp only [zS,zT,zU]);rfl) ?_;(with_reducible refine (leb_Put.calls k3 (rd y1120 x64_3) t1124 _ A26.out).mono ?_);rintro e w28 ⟨v1125,rfl,ho0,hb⟩;refine ⟨_,rfl,?_⟩;have n0_:=zA (Kd.R_elder' HO_4.out (Kd.R_base ho0) hb);have n1_:=zA (Kd.R_below HO_62.out hb);have n2_:=zA (Kd.R_lower (Kd.R_new' ho0 (Kd.R_lt HO_4.out)) (below_size HB.out));have n3_:=zA (below_step HB.out hb);clear HO_4;clear HO_62;clear HB;have HO_4:=n0_;have HO_62:=n1_;have HO1126:=n2_;have HB:=n3_;clear n0_ n1_ n2_ n3_;(try clear hb);(try clear ho0);obtain ⟨Ao30,co30,eo30⟩:=Kd.R_slice HO1126.out;subst eo30)|((with_reducible refine gate_builtin (b:=.append) (xs:=#[.tmp 68,.tmp 70]) rfl ?_);at_builtin;refine Kd.R_append_rows (Kd.int .u8) (w0:=w) w.heap.size rfl (.tmp 68) (.tmp 70) 22 5 (.int .u8 0) 1 rfl Try.underlying22 info5 rfl (by decide) (by omega) u4 x4_3 t1124 _ _ _ (fun k_=>some k_ ≠ (.slice Ao30 t1124.length co30 : Value).ownBlock) (fun _=>False) rfl rfl ?aO ?aR (fun _ _ h=>h) (fun _ h=>h.elim) ?aF ?aB ?aS ?aL ?_;(case aR=>exact (Kd.R_reads' HO1126.out).2.2);(case aB=>exact HB.out);(case aF=>exact (fun k_ hk=>Kd.fresh' (Kd.R_lt HO1126.out) k_ hk));(case aO=>exact (by exact Kd.R_mono HO_4.out (fun _ hk=>hk.2)));(case aS=>exact (below_size HB.out));(case aL=>have:=LMc27.out;omega);intro v1128 w29 ho hb hg hat;rw [← Ny1127.out] at ho;have n0_:=zA (Kd.R_over' HO_62.out (Kd.R_typed HO_4.out) (by decide) hg);have n1_:=zA (Kd.R_after (ok:=(fun _=>True)) HO1126.out hg hat);have n2_:=zA (hb);have n3_:=zA (ho);clear HO_62;clear HO1126;clear HB;clear HO_4;have HO_62:=n0_;have HO1126:=n1_;have HB:=n2_;have HO1129:=n3_;clear n0_ n1_ n2_ n3_;clear ho hb hg hat));go_roundg k3
                case measure=>have:=HK1.out;have:=HJ5.out;have:=HK3.out;omega
                case rel=>exact ⟨(y1127),(wrap64 (x64_3 + 1)),(by rfl),H',⟨by have:=HK1.out;have:=HJ5.out;have:=HK3.out;omega⟩,⟨by exact Kd.R_mono HO1129.out (fun _ hk=>trivial)⟩,⟨HO_62.out⟩,⟨HB.out⟩⟩
               ·rw [if_neg c27] at H;exact absurd H (by simp)
              ·rw [if_neg c25] at H;exact absurd H (by simp)
             ·rw [if_neg c24] at H;exact absurd H (by simp)
            ·rw [if_neg c23] at H;have c23b0 : decide (x64_3 < (y1120.length : Int)) = false:=zD c23;clear c23;have H':=zA H;clear H;go_wp2;go_roundg k3
             case measure=>have:=HK1.out;have:=HJ5.out;have:=HK3.out;omega
             case rel=>exact ⟨(x4_3),(wrap64 (x5_1 + x6_5)),(by rfl),H',⟨by have:=HK1.out;have:=HJ5.out;have:=HK3.out;omega⟩,⟨HO_4.out⟩,⟨HB.out⟩⟩
         ·rw [if_neg c18] at H;exact absurd H (by simp)
        ·rw [if_neg c17] at H;exact absurd H (by simp)
     ·replace c5:=Bool.eq_false_iff.mpr c5;subst c5;have H1 : (some (([] : List Int),27)) = some (r1,r2):=by rw [if_neg (show ¬ (false = true) by decide)] at H;exact H
      clear H;have H:=H1;clear H1;simp only [Option.some.injEq,Prod.mk.injEq] at H;obtain ⟨rfl,rfl⟩:=H;have p1113 : 0 ≤ (x5_1 : Int):=od;have q1113 : x5_1 < (l0.length : Int):=od;obtain ⟨ad1113,e1113,hx1113_0,hx1113_1,hx1113_2⟩:=at_T35 HR0.out x5_1 p1113 q1113;cases e1113;replace hx1113_0:=cx HB hx1113_0;replace hx1113_1:=cx HB hx1113_1;replace hx1113_2:=cx HB hx1113_2;replace p1113:=eq_true p1113;replace q1113:=eq_true q1113;go_wp2_with (((with_reducible refine zI (f:=19) rfl ?_);refine goesL_ (some 17) rfl rfl Try.func19 (by kernel_rfl) rfl #[.agg #[.int .i32 ((rd_T35 l0 x5_1).f0),.int .u16 ((rd_T35 l0 x5_1).f1),.int .u8 ((rd_T35 l0 x5_1).f2)]] rfl (by (try simp only [zS,zT,zU]);rfl) ?_;(with_reducible refine (runs_Right.calls ((rd_T35 l0 x5_1).f0) ((rd_T35 l0 x5_1).f1) ((rd_T35 l0 x5_1).f2) false _ A4.out).mono ?_);rintro e w31 ⟨rfl,hb⟩;refine ⟨_,rfl,?_⟩;have n0_:=zA (Kd.R_below HO_4.out hb);have n1_:=zA (below_step HB.out hb);clear HO_4;clear HB;have HO_4:=n0_;have HB:=n1_;clear n0_ n1_;(try clear hb)));go_ret2;exact ⟨_,by rfl,by exact Kd.R_nil _ _ _ _ _,HB.out⟩
    ·rw [if_neg c3] at H;exact absurd H (by simp)
   ·rw [if_neg c2] at H;have c2b0 : decide (x5_1 < (l0.length : Int)) = false:=zD c2;clear c2;simp only [Option.some.injEq,Prod.mk.injEq] at H;obtain ⟨rfl,rfl⟩:=H;go_wp2;go_ret2;exact ⟨_,by rfl,HO_4.out,HB.out⟩
end Go.Proofs.Ytooageeehallbaa.QRunsCut
namespace Go.Proofs.Ytooageeehallbaa.Leb
open Go.RowKit
/-- a number's bytes -/
def enc (n : Nat) : List Int:=if n < 128 then [(n : Int)] else ((n % 128 + 128 : Nat) : Int) :: enc (n / 128)
termination_by n
decreasing_by omega
theorem enc_small (n : Nat) (h : n < 128) : enc n = [(n : Int)]:=by unfold enc;rw [if_pos h]
theorem enc_big (n : Nat) (h : ¬ n < 128) : enc n = ((n % 128 + 128 : Nat) : Int) :: enc (n / 128):=by rw [enc];rw [if_neg h]
theorem enc_pos (n : Nat) : 1 ≤ (enc n).length:=by
 by_cases h : n < 128
 ·rw [enc_small n h];simp
 ·rw [enc_big n h];simp
theorem enc_len (k : Nat) : ∀ n,n < 128 ^ (k + 1) → (enc n).length ≤ k + 1:=by
 induction k with
|zero=>intro n h;rw [enc_small n (by simpa using h)];simp
|succ k ih =>
  intro n h;by_cases h1 : n < 128
  ·rw [enc_small n h1];simp
  ·rw [enc_big n h1];have:=ih (n / 128) (by rw [Nat.div_lt_iff_lt_mul (by decide)];rw [Nat.pow_succ] at h;exact h);simp only [List.length_cons];omega
theorem enc_len10 (n : Nat) (h : n < 18446744073709551616) : (enc n).length ≤ 10:=enc_len 9 n (Nat.lt_of_lt_of_le h (by decide))
theorem enc_byte (n : Nat) : ∀ x ∈ enc n,0 ≤ x∧x < 256:=by
 induction n using Nat.strongRecOn with
|_ n ih =>
  by_cases h : n < 128
  ·rw [enc_small n h];intro x hx;simp at hx;omega
  ·rw [enc_big n h];intro x hx;rcases List.mem_cons.1 hx with rfl|hx
   ·omega
   ·exact ih (n / 128) (by omega) x hx
theorem or128 (a : Int) : bits .or .u8 (a % 256) 128 = a % 128 + 128:=by
 rw [u8_or (a % 256) 128 (by omega) (by omega) (by decide) (by decide)];have h : ∀ m : Nat,m < 256 → m ||| 128 = m % 128 + 128:=by decide +kernel
 have h2:=h (a % 256).toNat (by omega);rw [show (128 : Int).toNat = 128 from rfl,h2];omega
end Go.Proofs.Ytooageeehallbaa.Leb
namespace Go.Proofs.Ytooageeehallbaa.Zig
open Go.RowKit
theorem u64w (n : Int) : IntKind.u64.wrap n = n % 18446744073709551616:=by simp [IntKind.wrap,IntKind.bits,IntKind.signed]
theorem w64_id (n : Int) (h1 : -9223372036854775808 ≤ n) (h2 : n < 9223372036854775808) : wrap64 n = n:=by unfold wrap64;omega
theorem wf_i64 {a : Int} (h : (Lit.int .i64 a).wf = true) : -9223372036854775808 ≤ a∧a ≤ 9223372036854775807:=by
 simp [Lit.wf,IntKind.min,IntKind.max,IntKind.signed,IntKind.bits] at h;omega
theorem wf_u16 {a : Int} (h : (Lit.int .u16 a).wf = true) : 0 ≤ a∧a ≤ 65535:=by
 simp [Lit.wf,IntKind.min,IntKind.max,IntKind.signed,IntKind.bits] at h;omega
theorem wf_u8 {a : Int} (h : (Lit.int .u8 a).wf = true) : 0 ≤ a∧a ≤ 255:=by
 simp [Lit.wf,IntKind.min,IntKind.max,IntKind.signed,IntKind.bits] at h;omega
end Go.Proofs.Ytooageeehallbaa.Zig
namespace Go.Proofs.Ytooageeehallbaa.Leb
open Go.RowKit
def decA : List Int → Nat → Nat → Int × Int × Int
|[],_,_=>(0,0,22)
|c :: r,i,acc=>if i = 9∧c > 1 then (0,0,21) else if c < 128 then (if 0 < i∧c = 0 then (0,0,21) else (((acc + c.toNat % 128 * 2 ^ (7 * i) : Nat) : Int),((i + 1 : Nat) : Int),0))
  else decA r (i + 1) (acc + c.toNat % 128 * 2 ^ (7 * i))
def dec (l : List Int) : Int × Int × Int:=decA l 0 0
theorem or_hi (acc c i : Nat) (h : acc < 2 ^ i) (hc : acc + c * 2 ^ i < 18446744073709551616) : bits .or .u64 (acc : Int) ((c * 2 ^ i : Nat) : Int) = ((acc + c * 2 ^ i : Nat) : Int):=by
 rw [u64_or_nat acc (c * 2 ^ i) (by omega) (by omega),Nat.or_comm,Nat.mul_comm c,← Nat.two_pow_add_eq_or_of_lt h];rw [Nat.add_comm]
theorem andNot128 (c : Int) (h0 : 0 ≤ c) (h1 : c < 256) : bits .andNot .u8 c 128 = c % 128:=by
 rw [u8_andNot c 128 h0 h1 (by decide) (by decide)];have h : ∀ m : Nat,m < 256 → m &&& (255 - 128) = m % 128:=by decide +kernel
 rw [show (128 : Int).toNat = 128 from rfl,h c.toNat (by omega)];omega
theorem shl_step (c : Int) (i : Nat) (h0 : 0 ≤ c) (h1 : c < 256) (hi : i ≤ 9) (hc : c % 128 * 2 ^ (7 * i) < 18446744073709551616) :
 IntKind.u64.wrap (IntKind.u64.wrap (bits .andNot .u8 c 128) * 2 ^ min ((7 * (i : Int)).toNat) 64) = ((c.toNat % 128 * 2 ^ (7 * i) : Nat) : Int):=by
 rw [andNot128 c h0 h1,Zig.u64w,Zig.u64w,show c % 128 % 18446744073709551616 = c % 128 from by omega,show (7 * (i : Int)).toNat = 7 * i from by omega,Nat.min_eq_left (by omega)];have hp : (0 : Int) < 2 ^ (7 * i):=by exact_mod_cast Nat.two_pow_pos (7 * i)
 rw [Int.emod_eq_of_lt (Int.mul_nonneg (by omega) (by omega)) hc];push_cast
 rw [Int.toNat_of_nonneg h0]
theorem pow7 (i : Nat) : 2 ^ (7 * (i + 1)) = 128 * 2 ^ (7 * i):=by rw [show 7 * (i + 1) = 7 + 7 * i from by omega,Nat.pow_add]
/-- what the low bits come to stays below the next ones -/
theorem acc_lt (acc c i : Nat) (h : acc < 2 ^ (7 * i)) : acc + c % 128 * 2 ^ (7 * i) < 2 ^ (7 * (i + 1)):=by
 rw [pow7];have h1 : c % 128 * 2 ^ (7 * i) ≤ 127 * 2 ^ (7 * i):=Nat.mul_le_mul_right _ (by omega);omega
theorem acc_64 (acc c i : Nat) (h : acc < 2 ^ (7 * i)) (hi : i ≤ 8∨i = 9∧c ≤ 1) : acc + c % 128 * 2 ^ (7 * i) < 18446744073709551616:=by
 rcases hi with hi|⟨rfl,hc⟩
 ·have h1:=acc_lt acc c i h;have h2 : 2 ^ (7 * (i + 1)) ≤ 2 ^ 63:=Nat.pow_le_pow_right (by decide) (by omega);have h3 : (2 : Nat) ^ 63 = 9223372036854775808:=by decide
  omega
 ·have h3 : (2 : Nat) ^ (7 * 9) = 9223372036854775808:=by decide
  rw [h3] at h ⊢;have : c % 128 ≤ 1:=by omega
  have h1 : c % 128 * 9223372036854775808 ≤ 1 * 9223372036854775808:=Nat.mul_le_mul_right _ this;omega
/-- what a number read is,where one is -/
theorem decA_ok (l : List Int) : ∀ (i acc : Nat),(∀ x ∈ l,0 ≤ x∧x < 256) → i ≤ 9 → acc < 2 ^ (7 * i) →
 (decA l i acc).2.2 = 0∧0 ≤ (decA l i acc).1∧(decA l i acc).1 < 18446744073709551616∧(i : Int) < (decA l i acc).2.1∧(decA l i acc).2.1 ≤ i + l.length∧(decA l i acc).2.1 ≤ 10 ∨
 (decA l i acc).1 = 0∧(decA l i acc).2.1 = 0∧((decA l i acc).2.2 = 21∨(decA l i acc).2.2 = 22):=by
 induction l with
|nil=>intro i acc _ _ _;right;simp [decA]
|cons c l ih =>
  intro i acc hb hi ha;have hc:=hb c (by simp);unfold decA;by_cases h1 : i = 9∧c > 1
  ·rw [if_pos h1];right;simp
  ·rw [if_neg h1];by_cases h2 : c < 128
   ·rw [if_pos h2];by_cases h3 : 0 < i∧c = 0
    ·rw [if_pos h3];right;simp
    ·rw [if_neg h3];left;have h64:=acc_64 acc c.toNat i ha (by omega);simp only [List.length_cons];refine ⟨trivial,by omega,by omega,by omega,by omega,by omega⟩
   ·rw [if_neg h2];have:=ih (i + 1) (acc + c.toNat % 128 * 2 ^ (7 * i)) (fun x hx=>hb x (by simp [hx])) (by omega) (acc_lt acc _ i ha);simp only [List.length_cons];rcases this with ⟨q1,q2,q3,q4,q5,q6⟩|q
    ·left;exact ⟨q1,q2,q3,by omega,by omega,q6⟩
    ·right;exact q
theorem dec_ok (l : List Int) (hb : ∀ x ∈ l,0 ≤ x∧x < 256) :
 (dec l).2.2 = 0∧0 ≤ (dec l).1∧(dec l).1 < 18446744073709551616∧0 < (dec l).2.1∧(dec l).2.1 ≤ l.length∧(dec l).2.1 ≤ 10 ∨
 (dec l).1 = 0∧(dec l).2.1 = 0∧((dec l).2.2 = 21∨(dec l).2.2 = 22):=by
 have:=decA_ok l 0 0 hb (by omega) (by decide);unfold dec;simpa using this
end Go.Proofs.Ytooageeehallbaa.Leb
namespace Go.Proofs.Ytooageeehallbaa.QRunsCut
open Go.RowKit Go.Proofs.YtooageeehallbaaW.PrintWords Go.Proofs.YtooageeehallbaaW.PrintLast Go.Proofs.YtooageeehallbaaW.PrintMore
theorem put_l0 (k : Nat) : ∀ (n : Nat) (acc : List Int),n < 18446744073709551616 → (Leb.enc n).length ≤ k → acc.length + (Leb.enc n).length ≤ 140737488355328 →
 leb_Put.l0 k (n : Int) acc = some (acc ++ Leb.enc n):=by
 induction k with
|zero=>intro n acc _ h _;have:=Leb.enc_pos n;omega
|succ k ih =>
  intro n acc hn hk hl;have hp:=Leb.enc_pos n;simp only [leb_Put.l0];by_cases h : n < 128
  ·rw [if_neg (by omega),if_pos (by omega),Leb.enc_small n h,show (n : Int) % 256 = n from by omega]
  ·rw [Leb.enc_big n h] at hk hl ⊢;simp only [List.length_cons] at hk hl;rw [if_pos (by omega),if_pos (by omega),Leb.or128,show (n : Int) / 128 = ((n / 128 : Nat) : Int) from by omega,show (n : Int) % 128 + 128 = ((n % 128 + 128 : Nat) : Int) from by omega,
    ih (n / 128) _ (by omega) (by omega) (by simp only [zV,List.length_cons,List.length_nil];omega)]
   simp
theorem put_f (k : Nat) (n : Int) (h0 : 0 ≤ n) (h : n ≤ 18446744073709551615) (hk : 10 ≤ k) : leb_Put.f k n = some (Leb.enc n.toNat):=by
 have h10:=Leb.enc_len10 n.toNat (by omega);have:=put_l0 k n.toNat [] (by omega) (by omega) (by simp only [List.length_nil];omega);rw [show ((n.toNat : Nat) : Int) = n from by omega] at this;simpa [leb_Put.f] using this
theorem rd_drop (l : List Int) (i : Nat) (c : Int) (r : List Int) (h : l.drop i = c :: r) : rd l (i : Int) = c∧l.drop (i + 1) = r∧i < l.length:=by
 have hlt : i < l.length:=by
  rcases Nat.lt_or_ge i l.length with h1|h1
  ·exact h1
  ·rw [List.drop_of_length_le h1] at h;cases h
 rw [List.drop_eq_getElem_cons hlt] at h;injection h with h1 h2
 refine ⟨?_,h2,hlt⟩;unfold rd;rw [Int.toNat_natCast,List.getD_eq_getElem?_getD,List.getElem?_eq_getElem hlt];exact h1
theorem or_step (acc i : Nat) (c : Int) (hc : 0 ≤ c∧c < 256) (hi : i ≤ 9) (ha : acc < 2 ^ (7 * i)) (h1 : ¬ (i = 9∧c > 1)) :
 Go.bits .or .u64 (acc : Int) (shl .u64 (IntKind.u64.wrap (Go.bits .andNot .u8 c 128)) (wrap64 (7 * (i : Int)))) = ((acc + c.toNat % 128 * 2 ^ (7 * i) : Nat) : Int):=by
 have h64:=Leb.acc_64 acc c.toNat i ha (by omega);have es:=Leb.shl_step c i hc.1 hc.2 hi (by
  have : c % 128 * 2 ^ (7 * i) = ((c.toNat % 128 * 2 ^ (7 * i) : Nat) : Int):=by push_cast;rw [Int.toNat_of_nonneg hc.1]
  rw [this];omega)
 rw [Zig.w64_id (7 * (i : Int)) (by clear es h64;omega) (by clear es h64;omega)];unfold shl;rw [show IntKind.u64.bits = 64 from rfl,es];exact Leb.or_hi acc _ _ ha h64
theorem read_l0 (l : List Int) (r : List Int) : ∀ (i acc k : Nat),l.drop i = r → (∀ x ∈ r,0 ≤ x∧x < 256) → i ≤ 9 → i ≤ l.length → acc < 2 ^ (7 * i) → 20 ≤ k + 2 * i →
 leb_Read.l0 k l (acc : Int) (i : Int) = some (Leb.decA r i acc):=by
 induction r with
|nil =>
  intro i acc k hd _ hi hil _ hk;obtain ⟨k,rfl⟩ : ∃ m,k = m + 1:=⟨k - 1,by omega⟩;have : l.length ≤ i:=by simpa using hd
  simp only [leb_Read.l0];rw [if_pos (by omega),if_pos (by omega),Leb.decA]
|cons c r ih =>
  intro i acc k hd hb hi hil ha hk;obtain ⟨k,rfl⟩ : ∃ m,k = m + 1 + 1:=⟨k - 2,by omega⟩;obtain ⟨e1,e2,e3⟩:=rd_drop l i c r hd;have hc:=hb c (by simp);have ej : leb_Read.l0 (k + 1 + 1) l (acc : Int) (i : Int) = leb_Read.j1 (k + 1) l (acc : Int) (i : Int) c (i : Int) (decide (i = 9∧c > 1)):=by
   rw [leb_Read.l0,if_pos (by omega),if_neg (by omega),if_pos (by omega),if_pos (by omega),e1];by_cases h9 : i = 9
   ·rw [if_pos (by omega)];congr 1;simp [h9]
   ·rw [if_neg (by omega)];congr 1;simp [h9]
  rw [ej,leb_Read.j1,Leb.decA];by_cases h1 : i = 9∧c > 1
  ·rw [if_pos (by simp [h1]),if_pos h1]
  ·have ew : wrap64 (7 * (i : Int)) = 7 * (i : Int):=Zig.w64_id _ (by omega) (by omega);have ei : wrap64 ((i : Int) + 1) = ((i + 1 : Nat) : Int):=by rw [Zig.w64_id _ (by omega) (by omega)];omega
   have eo:=or_step acc i c hc hi ha h1;rw [eo,ei];clear eo ei;have hneg : ¬ (decide (i = 9∧c > 1) = true):=by simpa using h1
   have hpos : (0 : Int) ≤ wrap64 (7 * (i : Int)):=by rw [ew];omega
   rw [if_neg hneg,if_neg h1,if_pos hpos];by_cases h2 : c < 128
   ·rw [if_pos h2,if_pos h2];by_cases h3 : 0 < i∧c = 0
    ·rw [if_pos (by omega),if_pos h3.2,if_pos h3]
    ·rw [if_neg h3];by_cases h4 : (i : Int) > 0
     ·rw [if_pos h4,if_neg (by omega)]
     ·rw [if_neg h4]
   ·have h9 : i ≤ 8:=by omega
    rw [if_neg h2,if_neg h2];exact ih (i + 1) _ k e2 (fun x hx=>hb x (by simp [hx])) (by omega) (by omega) (Leb.acc_lt acc _ i ha) (by omega)
theorem read_f (k : Nat) (l : List Int) (hb : ∀ x ∈ l,0 ≤ x∧x < 256) (hk : 20 ≤ k) : leb_Read.f k l = some (Leb.dec l):=by
 have:=read_l0 l l 0 0 k rfl hb (by omega) (by omega) (by decide) (by omega);exact this
end Go.Proofs.Ytooageeehallbaa.QRunsCut
namespace Go.Proofs.Ytooageeehallbaa.Runs
open Go.RowKit Go.Proofs.YtooageeehallbaaW.PrintWords Go.Proofs.YtooageeehallbaaW.PrintLast Go.Proofs.YtooageeehallbaaW.PrintMore Go.Proofs.Ytooageeehallbaa.QRunsCut Go.Proofs.Ytooageeehallbaa.Scr
set_option linter.unusedVariables false
set_option linter.unusedSimpArgs false
def encRun (n : Nat) (c : S35) : List Int:=Leb.enc n ++ (Leb.enc c.f0.toNat ++ Leb.enc (c.f1 * 4 + c.f2).toNat)
inductive Runs : List S35 → List Int → Prop
|nil : Runs [] []
|cons (n : Nat) (c : S35) {r : List S35} {b : List Int} : 1 ≤ n → (∀ d t,r = d :: t → d ≠ c) → Runs r b → Runs (List.replicate n c ++ r) (encRun n c ++ b)
theorem runs_split (c : S35) (l : List S35) : ∃ n r,c :: l = List.replicate n c ++ r∧1 ≤ n∧(∀ d t,r = d :: t → d ≠ c):=by
 induction l with
|nil=>exact ⟨1,[],rfl,by decide,fun d t h=>by cases h⟩
|cons d l ih =>
  by_cases e : d = c
  ·subst e;obtain ⟨n,r,h1,h2,h3⟩:=ih;exact ⟨n + 1,r,by rw [h1,List.replicate_succ,List.cons_append],by omega,h3⟩
  ·exact ⟨1,d :: l,rfl,by decide,fun d' t h=>by cases h;exact e⟩
theorem encRun_byte (n : Nat) (c : S35) : ∀ x ∈ encRun n c,0 ≤ x∧x < 256:=by
 intro x hx;unfold encRun at hx;rcases List.mem_append.1 hx with h|h
 ·exact Leb.enc_byte _ x h
 ·rcases List.mem_append.1 h with h|h <;> exact Leb.enc_byte _ x h
/-- A right cell's numbers. -/
theorem cell_num {c : S35} (h : CellOk c) : 0 ≤ c.f1 * 4 + c.f2∧c.f1 * 4 + c.f2 < 16384:=by
 have h1:=h.a.1;have h2:=h.a.2.1;have h3:=h.h0;have h4:=h.h2;omega
theorem encRun_len {n : Nat} {c : S35} (h : CellOk c) (hn : n < 18446744073709551616) : 3 ≤ (encRun n c).length∧(encRun n c).length ≤ 30:=by
 unfold encRun;rw [zV,zV];have h1:=Leb.enc_len10 n hn;have h2:=Leb.enc_len10 c.f0.toNat (by have:=h.r1;omega);have h3:=Leb.enc_len10 (c.f1 * 4 + c.f2).toNat (by have:=cell_num h;omega);have h4:=Leb.enc_pos n;have h5:=Leb.enc_pos c.f0.toNat;have h6:=Leb.enc_pos (c.f1 * 4 + c.f2).toNat;omega
def rightB (a : Int) : Bool:=decide (Go.bits .and .u16 a 8 = 0) && decide (Go.bits .and .u16 (a / 16) 15 ≤ 8) && decide (Go.bits .and .u16 (a / 256) 15 ≤ 8)
theorem attr_right {a : Int} (h : AttrOk a) : rightB a = true:=by
 obtain ⟨n,rfl⟩:=Int.eq_ofNat_of_zero_le h.1;have hn:=List.all_eq_true.1 (show ((List.range 4096).all fun n=>!attrB (n : Int) || rightB (n : Int)) = true by decide +kernel) n (List.mem_range.2 (by have:=h.2.1;omega));rw [Bool.or_eq_true,(attrB_iff _).2 h] at hn;rcases hn with hn|hn
 ·cases hn
 ·exact hn
theorem right_ok {c : S35} (h : CellOk c) : runs_Right.f c.f0 c.f1 c.f2 = some true:=by
 have ha:=attr_right h.a;simp only [rightB,Bool.and_eq_true,decide_eq_true_eq] at ha;obtain ⟨⟨a1,a2⟩,a3⟩:=ha;have h1:=h.r0;have h2:=h.r1;have h3:=h.rs;have h4:=h.h2;have h5:=h.a.2.1;have hz : ((c.f0 == 0) != (c.f2 == 2)) = false:=by
  by_cases e : c.f0 = 0
  ·rw [h.hz.1 e,e];rfl
  ·have e2 : c.f2 ≠ 2:=fun e2=>e (h.hz.2 e2)
   rw [beq_false_of_ne e,beq_false_of_ne e2];rfl
 unfold runs_Right.f;rw [if_neg (by omega),if_neg (by omega)];by_cases g : c.f0 ≥ 55296
 ·rw [if_pos g,if_neg (by omega),if_neg (by omega),if_neg (by rw [hz];decide),if_pos h5,if_pos a1,if_pos a2,zC a3]
 ·rw [if_neg g,if_neg (by omega),if_neg (by rw [hz];decide),if_pos h5,if_pos a1,if_pos a2,zC a3]
def eqB (a b : S35) : Bool:=(a.f0 == b.f0 && (a.f1 == b.f1 && (a.f2 == b.f2)))
theorem eqB_self (a : S35) : eqB a a = true:=by simp [eqB]
theorem eqB_ne {a b : S35} (h : a ≠ b) : eqB a b = false:=by
 cases a with|mk a0 a1 a2 =>
 cases b with|mk b0 b1 b2 =>
 cases e : eqB ⟨a0,a1,a2⟩ ⟨b0,b1,b2⟩ with
|false=>rfl
|true =>
  simp only [eqB,Bool.and_eq_true,beq_iff_eq] at e;obtain ⟨rfl,rfl,rfl⟩:=e;exact absurd rfl h
theorem rd_at (x : List S35) (i j : Nat) : rd_T35 x ((i : Int) + (j : Int)) = (x.drop i).getD j z35:=by
 unfold rd_T35;rw [show ((i : Int) + (j : Int)).toNat = i + j from by omega];simp only [List.getD_eq_getElem?_getD,List.getElem?_drop]
theorem rd_rep {x : List S35} {i n : Nat} {c : S35} {r : List S35} (h : x.drop i = List.replicate n c ++ r) {j : Nat} (hj : j < n) : rd_T35 x ((i : Int) + (j : Int)) = c:=by
 rw [rd_at,h,List.getD_eq_getElem?_getD,List.getElem?_append_left (by rw [List.length_replicate];exact hj),List.getElem?_replicate,if_pos hj];rfl
theorem rd_next {x : List S35} {i n : Nat} {c d : S35} {t : List S35} (h : x.drop i = List.replicate n c ++ d :: t) : rd_T35 x ((i : Int) + (n : Int)) = d:=by
 rw [rd_at,h,List.getD_eq_getElem?_getD,List.getElem?_append_right (by rw [List.length_replicate];omega),List.length_replicate,Nat.sub_self];rfl
theorem drop_len {α : Type} {x : List α} {i n : Nat} {c : α} {r : List α} (h : x.drop i = List.replicate n c ++ r) (hn : 1 ≤ n) : x.length = i + n + r.length:=by
 have:=congrArg List.length h;simp only [List.length_drop,zV,List.length_replicate] at this;omega
theorem put_l2 (k : Nat) (hk : 10 ≤ k) (x0 : List S35) (x4 : List Int) (i n a b c : Int) (ha : 0 ≤ a∧a ≤ 18446744073709551615) (hb : 0 ≤ b∧b ≤ 18446744073709551615) (hc : 0 ≤ c∧c ≤ 18446744073709551615) (hx : x4.length + 30 < 140737488355328) :
 runs_Put.l2 (k + 4) x0 x4 i n [a,b,c] 3 0 = runs_Put.l0 k x0 (x4 ++ (Leb.enc a.toNat ++ (Leb.enc b.toNat ++ Leb.enc c.toNat))) (wrap64 (i + n)):=by
 have l1:=Leb.enc_len10 a.toNat (by omega);have l2:=Leb.enc_len10 b.toNat (by omega);have l3:=Leb.enc_len10 c.toNat (by omega);rw [runs_Put.l2,if_pos (by decide),if_pos (by decide),if_pos (show (0 : Int) < (([a,b,c] : List Int).length : Int) from show (0 : Int) < 3 by decide),show rd [a,b,c] 0 = a from rfl,put_f _ a ha.1 ha.2 (by omega),zX,if_pos (by omega),show wrap64 (0 + 1) = 1 from by unfold wrap64;decide];rw [runs_Put.l2,if_pos (by decide),if_pos (by decide),if_pos (show (1 : Int) < (([a,b,c] : List Int).length : Int) from show (1 : Int) < 3 by decide),show rd [a,b,c] 1 = b from rfl,put_f _ b hb.1 hb.2 (by omega),zX,if_pos (by rw [zV];omega),show wrap64 (1 + 1) = 2 from by unfold wrap64;decide];rw [runs_Put.l2,if_pos (by decide),if_pos (by decide),if_pos (show (2 : Int) < (([a,b,c] : List Int).length : Int) from show (2 : Int) < 3 by decide),show rd [a,b,c] 2 = c from rfl,put_f _ c hc.1 hc.2 (by omega),zX,if_pos (by rw [zV,zV];omega),show wrap64 (2 + 1) = 3 from by unfold wrap64;decide];rw [runs_Put.l2,if_neg (by decide)];simp only [List.append_assoc]
theorem w64 (n : Int) (h1 : -9223372036854775808 ≤ n) (h2 : n < 9223372036854775808) : wrap64 n = n:=Zig.w64_id n h1 h2
/-- The equal ones are counted. -/
theorem put_l1 (x0 : List S35) (x4 : List Int) (i n : Nat) (c : S35) (r : List S35) (h : x0.drop i = List.replicate n c ++ r) (hn : 1 ≤ n) (hr : ∀ d t,r = d :: t → d ≠ c) (hl : x0.length ≤ 1000000) (d : Nat) :
 ∀ (k m : Nat),1 ≤ m → m + d = n → runs_Put.l1 (k + d + 1) x0 x4 (i : Int) (m : Int) = runs_Put.j2 k x0 x4 (i : Int) (n : Int):=by
 have hlen:=drop_len h hn;have h0 : rd_T35 x0 (i : Int) = c:=by
  have:=rd_rep h (j:=0) (by omega);simpa using this
 induction d with
|zero =>
  intro k m h1 hm;obtain rfl : m = n:=by omega
  rw [Nat.add_zero,runs_Put.l1,w64 _ (by omega) (by omega)];by_cases hlt : (i : Int) + (m : Int) < (x0.length : Int)
  ·rw [if_pos hlt,if_pos (by omega),if_pos (by omega),if_pos (by omega)];cases r with
  |nil=>simp only [List.length_nil] at hlen;omega
  |cons d t =>
    have e:=rd_next h;rw [e,h0];rw [if_neg (by
     have:=eqB_ne (hr d t rfl);unfold eqB at this;rw [this];decide)]
  ·rw [if_neg hlt]
|succ d ih =>
  intro k m h1 hm;rw [show k + (d + 1) + 1 = (k + d + 1) + 1 from by omega,runs_Put.l1,w64 _ (by omega) (by omega),if_pos (by omega),if_pos (by omega),if_pos (by omega),if_pos (by omega),rd_rep h (j:=m) (by omega),h0];rw [if_pos (by
   have:=eqB_self c;unfold eqB at this;exact this),w64 _ (by omega) (by omega)]
  have:=ih k (m + 1) (by omega) (by omega);rw [show ((m + 1 : Nat) : Int) = (m : Int) + 1 from by omega] at this;exact this
theorem u64w (n : Int) (h0 : 0 ≤ n) (h1 : n < 18446744073709551616) : IntKind.u64.wrap n = n:=by rw [Zig.u64w];omega
theorem put_num {c : S35} (h : CellOk c) : Go.bits .or .u64 (IntKind.u64.wrap ((IntKind.u64.wrap c.f1) * 4)) (IntKind.u64.wrap c.f2) = c.f1 * 4 + c.f2:=by
 have h1:=h.a.1;have h2:=h.a.2.1;have h3:=h.h0;have h4:=h.h2;rw [u64w c.f1 (by omega) (by omega),u64w _ (by omega) (by omega),u64w c.f2 (by omega) (by omega)];obtain ⟨a,ea⟩:=Int.eq_ofNat_of_zero_le h1;obtain ⟨b,eb⟩:=Int.eq_ofNat_of_zero_le h3;rw [ea,eb];have:=u64_or_nat (a * 4) b (by omega) (by omega);rw [show ((a : Int) * 4) = ((a * 4 : Nat) : Int) from by omega,this];have e2 : a * 4 ||| b = a * 4 + b:=by
  have:=Nat.two_pow_add_eq_or_of_lt (i:=2) (b:=b) (by omega) a;rw [show 2 ^ 2 * a = a * 4 from by omega] at this;exact this.symm
 rw [e2];omega
theorem put_step (k : Nat) (hk : 10 ≤ k) (x0 : List S35) (x4 : List Int) (i n : Nat) (c : S35) (r : List S35) (h : x0.drop i = List.replicate n c ++ r) (hn : 1 ≤ n) (hr : ∀ d t,r = d :: t → d ≠ c) (hc : CellOk c) (hl : x0.length ≤ 1000000) (hx : x4.length + 30 < 140737488355328) :
 runs_Put.l0 (k + n + 6) x0 x4 (i : Int) = runs_Put.l0 k x0 (x4 ++ encRun n c) ((i + n : Nat) : Int):=by
 have hlen:=drop_len h hn;have h0 : rd_T35 x0 (i : Int) = c:=by
  have:=rd_rep h (j:=0) (by omega);simpa using this
 rw [runs_Put.l0,if_pos (by omega),if_pos (by omega),h0,right_ok hc,zX,if_pos rfl];rw [show k + n + 5 = (k + 5) + (n - 1) + 1 from by omega];have e1:=put_l1 x0 x4 i n c r h hn hr hl (n - 1) (k + 5) 1 (by decide) (by omega);rw [show ((1 : Nat) : Int) = 1 from rfl] at e1;rw [e1,runs_Put.j2,if_pos (by omega),if_pos (by omega),zX,h0,put_num hc,u64w _ (by omega) (by omega),u64w _ hc.r0 (by have:=hc.r1;omega)];rw [show ((([(n : Int),c.f0,c.f1 * 4 + c.f2] : List Int).length : Nat) : Int) = 3 from rfl,put_l2 k hk x0 x4 _ _ _ _ _ ⟨by omega,by omega⟩ ⟨hc.r0,by have:=hc.r1;omega⟩ ⟨(cell_num hc).1,by have:=(cell_num hc).2;omega⟩ hx,w64 _ (by omega) (by omega)];rfl
/-- A run that bytes begin with,or why none. -/
def decRun (l : List Int) : Int × Int × Int × Int × Int × Int :=
 if (Leb.dec l).2.2 = 0 then (if (Leb.dec (l.drop (Leb.dec l).2.1.toNat)).2.2 = 0 then (if (Leb.dec (l.drop ((Leb.dec l).2.1.toNat + (Leb.dec (l.drop (Leb.dec l).2.1.toNat)).2.1.toNat))).2.2 = 0 then
  (if (Leb.dec (l.drop (Leb.dec l).2.1.toNat)).1 > 1114111 then (0,0,0,0,0,21) else if (Leb.dec (l.drop ((Leb.dec l).2.1.toNat + (Leb.dec (l.drop (Leb.dec l).2.1.toNat)).2.1.toNat))).1 ≥ 16384 then (0,0,0,0,0,21) else
   ((Leb.dec l).1,(Leb.dec (l.drop (Leb.dec l).2.1.toNat)).1,(Leb.dec (l.drop ((Leb.dec l).2.1.toNat + (Leb.dec (l.drop (Leb.dec l).2.1.toNat)).2.1.toNat))).1 / 4,(Leb.dec (l.drop ((Leb.dec l).2.1.toNat + (Leb.dec (l.drop (Leb.dec l).2.1.toNat)).2.1.toNat))).1 % 4,
    (Leb.dec l).2.1 + (Leb.dec (l.drop (Leb.dec l).2.1.toNat)).2.1 + (Leb.dec (l.drop ((Leb.dec l).2.1.toNat + (Leb.dec (l.drop (Leb.dec l).2.1.toNat)).2.1.toNat))).2.1,0))
  else (0,0,0,0,0,(Leb.dec (l.drop ((Leb.dec l).2.1.toNat + (Leb.dec (l.drop (Leb.dec l).2.1.toNat)).2.1.toNat))).2.2))
  else (0,0,0,0,0,(Leb.dec (l.drop (Leb.dec l).2.1.toNat)).2.2))
 else (0,0,0,0,0,(Leb.dec l).2.2)
theorem st_f (k : Nat) (l : List Int) (a : Nat) (hb : ∀ x ∈ l,0 ≤ x∧x < 256) (hk : 20 ≤ k) (ha : a ≤ l.length) : runs_run.st k l (a : Int) = some (Leb.dec (l.drop a)):=by
 unfold runs_run.st;rw [if_pos ⟨by omega,by omega⟩,Int.toNat_natCast,read_f k _ (fun x hx=>hb x (List.mem_of_mem_drop hx)) hk]
theorem dec_le (l : List Int) (hb : ∀ x ∈ l,0 ≤ x∧x < 256) (h : (Leb.dec l).2.2 = 0) : 0 ≤ (Leb.dec l).1∧(Leb.dec l).1 < 18446744073709551616∧0 < (Leb.dec l).2.1∧(Leb.dec l).2.1 ≤ l.length∧(Leb.dec l).2.1 ≤ 10:=by
 rcases Leb.dec_ok l hb with ⟨_,h1,h2,h3,h4,h5⟩|⟨_,_,h6⟩
 ·exact ⟨h1,h2,h3,h4,h5⟩
 ·rcases h6 with h6|h6 <;> rw [h6] at h <;> exact absurd h (by decide)
theorem and3 (a : Int) (h0 : 0 ≤ a) (h1 : a < 16384) : Go.bits .and .u64 a 3 = a % 4:=by
 obtain ⟨n,rfl⟩:=Int.eq_ofNat_of_zero_le h0;have:=u64_and_nat n 3 (by omega) (by decide);rw [show ((3 : Nat) : Int) = 3 from rfl] at this;rw [this,show (3 : Nat) = 2 ^ 2 - 1 from rfl,Nat.and_two_pow_sub_one_eq_mod];omega
theorem run_dec (k : Nat) (l : List Int) (hb : ∀ x ∈ l,0 ≤ x∧x < 256) (hk : 20 ≤ k) : runs_run.f k l = some (decRun l):=by
 have hbd : ∀ a,∀ x ∈ l.drop a,0 ≤ x∧x < 256:=fun a x hx=>hb x (List.mem_of_mem_drop hx)
 unfold runs_run.f decRun;have s0:=st_f k l 0 hb hk (Nat.zero_le _);rw [show ((0 : Nat) : Int) = 0 from rfl,List.drop_zero] at s0;rw [s0,zX];generalize hd0 : Leb.dec l = d0;by_cases e0 : d0.2.2 = 0
 case neg=>rw [if_neg e0,if_neg e0]
 rw [if_pos e0,if_pos e0];have b0:=dec_le l hb (by rw [hd0];exact e0);rw [hd0] at b0;obtain ⟨a1,ea1⟩:=Int.eq_ofNat_of_zero_le (Int.le_of_lt b0.2.2.1);rw [ea1,Int.toNat_natCast,w64 _ (by omega) (by omega),st_f k l a1 hb hk (by omega),zX];have b1:=dec_le (l.drop a1) (hbd a1);generalize Leb.dec (l.drop a1) = d1 at b1 ⊢;by_cases e1 : d1.2.2 = 0
 case neg=>rw [if_neg e1,if_neg e1]
 rw [if_pos e1,if_pos e1];replace b1:=b1 e1;rw [List.length_drop] at b1;obtain ⟨a2,ea2⟩:=Int.eq_ofNat_of_zero_le (Int.le_of_lt b1.2.2.1);rw [ea2,Int.toNat_natCast,w64 _ (by omega) (by omega),show (a1 : Int) + (a2 : Int) = ((a1 + a2 : Nat) : Int) from by omega,st_f k l (a1 + a2) hb hk (by omega),zX];have b2:=dec_le (l.drop (a1 + a2)) (hbd (a1 + a2));generalize Leb.dec (l.drop (a1 + a2)) = d2 at b2 ⊢;by_cases e2 : d2.2.2 = 0
 case neg=>rw [if_neg e2,if_neg e2]
 rw [if_pos e2,if_pos e2];replace b2:=b2 e2;by_cases g1 : d1.1 > 1114111
 ·rw [if_pos g1,if_pos g1]
 rw [if_neg g1,if_neg g1];by_cases g2 : d2.1 ≥ 16384
 ·rw [if_pos g2,if_pos g2]
 rw [if_neg g2,if_neg g2,and3 _ b2.1 (by omega),w64 _ (by omega) (by omega),show wrap32 d1.1 = d1.1 from by unfold wrap32;omega];rw [show IntKind.u16.wrap (d2.1 / 4) = d2.1 / 4 from by rw [IntKind.wrap_u16];omega,show IntKind.u8.wrap (d2.1 % 4) = d2.1 % 4 from by rw [IntKind.wrap_u8];omega]
end Go.Proofs.Ytooageeehallbaa.Runs
namespace Go.Proofs.Ytooageeehallbaa.QRunsCut
open Go.RowKit Go.Proofs.YtooageeehallbaaW.PrintWords Go.Proofs.YtooageeehallbaaW.PrintLast Go.Proofs.YtooageeehallbaaW.PrintMore
attribute [local go_sem] max2_int min2_int max_two min_two max_three min_three max_four min_four 
attribute [local go_sem high] eqA35
set_option linter.unusedVariables false
set_option linter.unusedSimpArgs false
/-! ### repriseref7_SameCells: function 15 -/
def repriseref7_SameCells.l0 : Nat → List (S35) → List (S35) → Int → Option (Bool)
|0,_,_,_=>none
|k + 1,x0,x1,x5=>if x5 < (x0.length : Int) then (if 0 ≤ x5 then (if x5 < (x1.length : Int) then (if (!(((rd_T35 x0 x5).f0) == ((rd_T35 x1 x5).f0)) || (!(((rd_T35 x0 x5).f1) == ((rd_T35 x1 x5).f1)) || (!(((rd_T35 x0 x5).f2) == ((rd_T35 x1 x5).f2))))) = true then (some false) else (repriseref7_SameCells.l0 k x0 x1 (wrap64 (x5 + 1)))) else (none)) else (none)) else (some true)
def repriseref7_SameCells.f (k : Nat) (l0 : List (S35)) (l1 : List (S35)) : Option (Bool):=if (l0.length : Int) = (l1.length : Int) then (repriseref7_SameCells.l0 k l0 l1 0) else (some false)
theorem repriseref7_SameCells.mono_l : ∀ k,(∀ y0 y1 y2,LeO (repriseref7_SameCells.l0 k y0 y1 y2) (repriseref7_SameCells.l0 (k + 1) y0 y1 y2))
|0=>fun _ _ _ r h=>by simp [repriseref7_SameCells.l0] at h
|k + 1=>by
  have ih0:=repriseref7_SameCells.mono_l k
  ·intro y0 y1 y2;unfold repriseref7_SameCells.l0;repeat' first
  |(with_reducible exact ih0 _ _ _)
  |(with_reducible exact LeO.refl _)
  |(with_reducible exact LeO.none _)
  |(with_reducible refine LeO.ite ?_ ?_)
  |(with_reducible refine LeO.bind ?_ (fun _=>?_))
  |exact ih0 _ _ _
  |exact LeO.none _
  |refine LeO.ite ?_ ?_
  |refine LeO.bind ?_ (fun _=>?_)
theorem repriseref7_SameCells.mono : ∀ a0 a1 k,LeO (repriseref7_SameCells.f k a0 a1) (repriseref7_SameCells.f (k + 1) a0 a1):=by
 intro a0 a1 k;have ih0:=repriseref7_SameCells.mono_l k;unfold repriseref7_SameCells.f;repeat' first
 |(with_reducible exact ih0 _ _ _)
 |(with_reducible exact LeO.refl _)
 |(with_reducible exact LeO.none _)
 |(with_reducible refine LeO.ite ?_ ?_)
 |(with_reducible refine LeO.bind ?_ (fun _=>?_))
 |exact ih0 _ _ _
 |exact LeO.none _
 |refine LeO.ite ?_ ?_
 |refine LeO.bind ?_ (fun _=>?_)
set_option maxHeartbeats 8000000 in
set_option maxRecDepth 100000 in
theorem repriseref7_SameCells.calls (k : Nat) (A0 : Option Addr) (c0 : Nat) (l0 : List (S35)) (A1 : Option Addr) (c1 : Nat) (l1 : List (S35)) (r : Bool) (w : World) (hr0 : Kd.C k35 w A0 l0.length l0) (hc0 : l0.length ≤ c0) (hr1 : Kd.C k35 w A1 l1.length l1) (hc1 : l1.length ≤ c1) (h : repriseref7_SameCells.f k l0 l1 = some r) :
 Calls Try.prog 15 #[.slice A0 l0.length c0,.slice A1 l1.length c1] w fun e w'=>e = .returned (.bool r)∧Drawn0 w w':=by
 have hu35:=Try.underlying35;have HR0:=zA hr0;have HC0:=zA hc0;clear hr0 hc0;have HR1:=zA hr1;have HC1:=zA hc1;clear hr1 hc1;have H : (if (l0.length : Int) = (l1.length : Int) then (repriseref7_SameCells.l0 k l0 l1 0) else (some false)) = some r:=h;clear h;by_cases c3 : (l0.length : Int) = (l1.length : Int)
 ·rw [if_pos c3] at H;have c3b0 : ((l0.length : Int) == (l1.length : Int)) = true:=beq_iff_eq.mpr c3;have c3b1 : ((l0.length : Int) != (l1.length : Int)) = false:=bne_eq_false_iff_eq.mpr c3;have c3b2 : (l0.length == l1.length) = true:=by (simp at c3 ⊢;omega)
  clear c3;have H':=zA H;clear H;go_enter Try.func15,Try.ntmps15
  go_wp2;repeat (go_quiet (fail);try go_wp2)
  go_loopg [5] k (fun kq v5 w'=>∃ (x5_1 : Int),v5 = .int .i64 x5_1∧Aside0 (repriseref7_SameCells.l0 kq l0 l1 x5_1 = some r)∧Aside0 (kq ≤ k)∧Drawn0 w w')
  case atStart=>exact ⟨(0),(by rfl),H',⟨Nat.le_refl _⟩,by exact Drawn0.refl _⟩
  case round =>
   clear H';(try clear c1);(try clear p2);(try clear c3);(try clear c3b0);(try clear c3b1);(try clear c3b2);obtain ⟨x5_1,rfl,HA,HK1,⟨m1,rfl⟩⟩:=hrel;cases gk with
  |zero=>exact absurd HA.out (by simp [repriseref7_SameCells.l0])
  |succ k1 =>
    have H:=HA.out;clear HA;simp only [repriseref7_SameCells.l0] at H;by_cases c4 : x5_1 < (l0.length : Int)
    ·rw [if_pos c4] at H;have c4b0 : decide (x5_1 < (l0.length : Int)) = true:=zC c4;clear c4;by_cases c5 : 0 ≤ x5_1
     ·rw [if_pos c5] at H;have c5b0 : decide (0 ≤ x5_1) = true:=zC c5;clear c5;by_cases c6 : x5_1 < (l1.length : Int)
      ·rw [if_pos c6] at H;have c6b0 : decide (x5_1 < (l1.length : Int)) = true:=zC c6;clear c6;by_cases c7 : (!(((rd_T35 l0 x5_1).f0) == ((rd_T35 l1 x5_1).f0)) || (!(((rd_T35 l0 x5_1).f1) == ((rd_T35 l1 x5_1).f1)) || (!(((rd_T35 l0 x5_1).f2) == ((rd_T35 l1 x5_1).f2))))) = true
       ·rw [if_pos c7] at H;have c7b0 : (!(((rd_T35 l0 x5_1).f0) == ((rd_T35 l1 x5_1).f0)) || (!(((rd_T35 l0 x5_1).f1) == ((rd_T35 l1 x5_1).f1)) || (!(((rd_T35 l0 x5_1).f2) == ((rd_T35 l1 x5_1).f2))))) = true:=c7;clear c7;obtain rfl:=zY H;have p1104 : 0 ≤ (x5_1 : Int):=od;have q1104 : x5_1 < (l0.length : Int):=od;obtain ⟨ad1104,e1104,hx1104_0,hx1104_1,hx1104_2⟩:=at_T35 HR0.out x5_1 p1104 q1104;cases e1104;replace p1104:=eq_true p1104;replace q1104:=eq_true q1104;have p1105 : 0 ≤ (x5_1 : Int):=od;have q1105 : x5_1 < (l1.length : Int):=od;obtain ⟨ad1105,e1105,hx1105_0,hx1105_1,hx1105_2⟩:=at_T35 HR1.out x5_1 p1105 q1105;cases e1105;replace p1105:=eq_true p1105;replace q1105:=eq_true q1105;go_wp2;repeat (go_quiet (fail);try go_wp2)
        go_ret;exact ⟨by rfl,by repeat (first|exact Drawn0.refl _|apply Drawn0.step)⟩
       ·rw [if_neg c7] at H;have c7b0 : (!(((rd_T35 l0 x5_1).f0) == ((rd_T35 l1 x5_1).f0)) || (!(((rd_T35 l0 x5_1).f1) == ((rd_T35 l1 x5_1).f1)) || (!(((rd_T35 l0 x5_1).f2) == ((rd_T35 l1 x5_1).f2))))) = false:=by simpa using c7
        clear c7;have H':=zA H;clear H;have p1104 : 0 ≤ (x5_1 : Int):=od;have q1104 : x5_1 < (l0.length : Int):=od;obtain ⟨ad1104,e1104,hx1104_0,hx1104_1,hx1104_2⟩:=at_T35 HR0.out x5_1 p1104 q1104;cases e1104;replace p1104:=eq_true p1104;replace q1104:=eq_true q1104;have p1105 : 0 ≤ (x5_1 : Int):=od;have q1105 : x5_1 < (l1.length : Int):=od;obtain ⟨ad1105,e1105,hx1105_0,hx1105_1,hx1105_2⟩:=at_T35 HR1.out x5_1 p1105 q1105;cases e1105;replace p1105:=eq_true p1105;replace q1105:=eq_true q1105;go_wp2;repeat (go_quiet (fail);try go_wp2)
        go_roundg k1
        case measure=>have:=HK1.out;omega
        case rel=>exact ⟨(wrap64 (x5_1 + 1)),(by rfl),H',⟨by have:=HK1.out;omega⟩,by repeat (first|exact Drawn0.refl _|apply Drawn0.step)⟩
      ·rw [if_neg c6] at H;exact absurd H (by simp)
     ·rw [if_neg c5] at H;exact absurd H (by simp)
    ·rw [if_neg c4] at H;have c4b0 : decide (x5_1 < (l0.length : Int)) = false:=zD c4;clear c4;obtain rfl:=zY H;go_wp2;repeat (go_quiet (fail);try go_wp2)
     go_ret;exact ⟨by rfl,by repeat (first|exact Drawn0.refl _|apply Drawn0.step)⟩
 ·rw [if_neg c3] at H;have c3b0 : ((l0.length : Int) == (l1.length : Int)) = false:=beq_eq_false_iff_ne.mpr c3;have c3b1 : ((l0.length : Int) != (l1.length : Int)) = true:=bne_iff_ne.mpr c3;have c3b2 : (l0.length == l1.length) = false:=by (simp at c3 ⊢;omega)
  obtain rfl:=zY H;go_enter Try.func15,Try.ntmps15
  go_wp2;repeat (go_quiet (fail);try go_wp2)
  go_ret;exact ⟨by rfl,by exact Drawn0.refl _⟩
end Go.Proofs.Ytooageeehallbaa.QRunsCut
namespace Go.Proofs.Ytooageeehallbaa.QRunsCut
open Go.RowKit Go.Proofs.YtooageeehallbaaW.PrintWords Go.Proofs.YtooageeehallbaaW.PrintLast Go.Proofs.YtooageeehallbaaW.PrintMore
attribute [local go_sem] max2_int min2_int max_two min_two max_three min_three max_four min_four 
set_option linter.unusedVariables false
set_option linter.unusedSimpArgs false
/-! ### repriselaw6_known: function 16 -/
end Go.Proofs.Ytooageeehallbaa.QRunsCut
namespace Go.Proofs.Ytooageeehallbaa.Runs
open Go.RowKit Go.Proofs.YtooageeehallbaaW.PrintWords Go.Proofs.YtooageeehallbaaW.PrintLast Go.Proofs.YtooageeehallbaaW.PrintMore Go.Proofs.Ytooageeehallbaa.QRunsCut Go.Proofs.Ytooageeehallbaa.Scr
set_option linter.unusedVariables false
set_option linter.unusedSimpArgs false
end Go.Proofs.Ytooageeehallbaa.Runs
namespace Go.Proofs.Ytooageeehallbaa
open Go.RowKit
namespace Leb
end Leb
end Go.Proofs.Ytooageeehallbaa
namespace Go.Proofs.Ytooageeehallbaa.Runs
open Go.RowKit Go.Proofs.YtooageeehallbaaW.PrintWords Go.Proofs.YtooageeehallbaaW.PrintLast Go.Proofs.YtooageeehallbaaW.PrintMore Go.Proofs.Ytooageeehallbaa.QRunsCut Go.Proofs.Ytooageeehallbaa.Scr
theorem read_l1 (k : Nat) (x0 : List Int) (N : Int) (at_ size : Int) (m : Nat) (c : S35) (hm : m < 1000000) (d : Nat) : ∀ (out : List S35) (j : Nat),j + d = m → out.length + d ≤ 10000000 →
 runs_Read.l1 (k + d + 1) x0 N out at_ size (m : Int) (j : Int) c.f0 c.f1 c.f2 = runs_Read.l0 k x0 N (out ++ List.replicate d c) (wrap64 (at_ + size)):=by
 induction d with
|zero =>
  intro out j hj ho;rw [Nat.add_zero,runs_Read.l1,if_neg (by omega),List.replicate_zero,List.append_nil]
|succ d ih =>
  intro out j hj ho;rw [show k + (d + 1) + 1 = (k + d + 1) + 1 from by omega,runs_Read.l1,if_pos (by omega),if_pos (by omega),u64w _ (by omega) (by omega)];have:=ih (out ++ [c]) (j + 1) (by omega) (by rw [zV,List.length_singleton];omega);rw [show ((j + 1 : Nat) : Int) = (j : Int) + 1 from by omega] at this;rw [List.replicate_succ,show out ++ c :: List.replicate d c = (out ++ [c]) ++ List.replicate d c from by rw [List.append_assoc];rfl];exact this
theorem rd_last {out : List S35} {d : S35} (h : out.getLast? = some d) : rd_T35 out ((out.length : Int) - 1) = d:=by
 unfold rd_T35;rw [List.getLast?_eq_getElem?] at h;rw [List.getD_eq_getElem?_getD,show ((out.length : Int) - 1).toNat = out.length - 1 from by omega,h];rfl
theorem mem_rep {m : Nat} {c : S35} (hm : 1 ≤ m) (r : List S35) : c ∈ List.replicate m c ++ r:=List.mem_append_left _ (List.mem_replicate.2 ⟨by omega,rfl⟩)
end Go.Proofs.Ytooageeehallbaa.Runs
namespace Go.Proofs.Ytooageeehallbaa.QRunsCut
open Go.RowKit Go.Proofs.YtooageeehallbaaW.PrintWords Go.Proofs.YtooageeehallbaaW.PrintLast Go.Proofs.YtooageeehallbaaW.PrintMore
theorem and127 (c : Int) (h0 : 0 ≤ c) (h1 : c < 256) : Go.bits .and .u8 c 127 = Go.bits .andNot .u8 c 128:=by
 rw [Leb.andNot128 c h0 h1,u8_and c 127 h0 h1 (by decide) (by decide)];have h : ∀ m : Nat,m < 256 → m &&& 127 = m % 128:=by decide +kernel
 rw [show (127 : Int).toNat = 127 from rfl,h c.toNat (by omega)];omega
theorem rread_l0 (l : List Int) (r : List Int) : ∀ (i acc k : Nat),l.drop i = r → (∀ x ∈ r,0 ≤ x∧x < 256) → i ≤ 9 → i ≤ l.length → acc < 2 ^ (7 * i) → 20 ≤ k + 2 * i →
 repriseref1_Read.l0 k l (acc : Int) (i : Int) = some (Leb.decA r i acc):=by
 induction r with
|nil =>
  intro i acc k hd _ hi hil _ hk;obtain ⟨k,rfl⟩ : ∃ m,k = m + 1:=⟨k - 1,by omega⟩;have : l.length ≤ i:=by simpa using hd
  rw [repriseref1_Read.l0,if_neg (by omega),Leb.decA]
|cons c r ih =>
  intro i acc k hd hb hi hil ha hk;obtain ⟨k,rfl⟩ : ∃ m,k = m + 1 + 1:=⟨k - 2,by omega⟩;obtain ⟨e1,e2,e3⟩:=rd_drop l i c r hd;have hc:=hb c (by simp);have p1 : (i : Int) < (l.length : Int):=by omega
  have p2 : (0 : Int) ≤ (i : Int):=Int.natCast_nonneg i;have ej : repriseref1_Read.l0 (k + 1 + 1) l (acc : Int) (i : Int) = repriseref1_Read.j1 (k + 1) l (acc : Int) (i : Int) (decide (i = 9∧c > 1)):=by
   rw [repriseref1_Read.l0,if_pos p1];by_cases h9 : i = 9
   ·rw [if_pos (by omega),if_pos p2,e1];congr 1;simp [h9]
   ·rw [if_neg (by omega)];congr 1;simp [h9]
  rw [ej,repriseref1_Read.j1,Leb.decA];by_cases h1 : i = 9∧c > 1
  ·rw [if_pos (by simp [h1]),if_pos h1]
  ·have ew : wrap64 (7 * (i : Int)) = 7 * (i : Int):=Zig.w64_id _ (by omega) (by omega);have ei : wrap64 ((i : Int) + 1) = ((i + 1 : Nat) : Int):=by rw [Zig.w64_id _ (by omega) (by omega)];omega
   have eo:=or_step acc i c hc hi ha h1;rw [e1,and127 c hc.1 hc.2,eo,ei];clear eo ei;have hneg : ¬ (decide (i = 9∧c > 1) = true):=by simpa using h1
   have hpos : (0 : Int) ≤ wrap64 (7 * (i : Int)):=by rw [ew];omega
   rw [if_neg hneg,if_neg h1,if_pos p2,if_pos p1,if_pos hpos];by_cases h2 : c < 128
   ·rw [if_pos h2,if_pos h2];by_cases h3 : 0 < i∧c = 0
    ·rw [if_pos (by omega),if_pos h3.2,if_pos h3]
    ·rw [if_neg h3];by_cases h4 : (i : Int) > 0
     ·rw [if_pos h4,if_neg (by omega)]
     ·rw [if_neg h4]
   ·have h9 : i ≤ 8:=by omega
    rw [if_neg h2,if_neg h2];exact ih (i + 1) _ k e2 (fun x hx=>hb x (by simp [hx])) (by omega) (by omega) (Leb.acc_lt acc _ i ha) (by omega)
theorem rread_f (k : Nat) (l : List Int) (hb : ∀ x ∈ l,0 ≤ x∧x < 256) (hk : 20 ≤ k) : repriseref1_Read.f k l = some (Leb.dec l):=by
 have:=rread_l0 l l 0 0 k rfl hb (by omega) (by omega) (by decide) (by omega);exact this
theorem rput_l0 (k : Nat) : ∀ (n : Nat) (acc : List Int),n < 18446744073709551616 → (Leb.enc n).length ≤ k → acc.length + (Leb.enc n).length ≤ 140737488355328 →
 repriseref1_Put.l0 k (n : Int) acc = some (acc ++ Leb.enc n):=by
 induction k with
|zero=>intro n acc _ h _;have:=Leb.enc_pos n;omega
|succ k ih =>
  intro n acc hn hk hl;have hp:=Leb.enc_pos n;simp only [repriseref1_Put.l0];by_cases h : n < 128
  ·rw [if_neg (by omega),if_pos (by omega),Leb.enc_small n h,show (n : Int) % 256 = n from by omega]
  ·rw [Leb.enc_big n h] at hk hl ⊢;simp only [List.length_cons] at hk hl;rw [if_pos (by omega),if_pos (by omega),Leb.or128,show (n : Int) / 128 = ((n / 128 : Nat) : Int) from by omega,show (n : Int) % 128 + 128 = ((n % 128 + 128 : Nat) : Int) from by omega,
    ih (n / 128) _ (by omega) (by omega) (by simp only [zV,List.length_cons,List.length_nil];omega)]
   simp
theorem rput_f (k : Nat) (n : Int) (hk : 10 ≤ k) (h0 : 0 ≤ n) (h : n < 18446744073709551616) : repriseref1_Put.f k n = some (Leb.enc n.toNat):=by
 obtain ⟨m,rfl⟩:=Int.eq_ofNat_of_zero_le h0;have h10:=Leb.enc_len10 m (by omega);have:=rput_l0 k m [] (by omega) (by omega) (by simp only [List.length_nil];omega);simpa [repriseref1_Put.f] using this
end Go.Proofs.Ytooageeehallbaa.QRunsCut
namespace Go.Proofs.Ytooageeehallbaa.Runs
open Go.RowKit Go.Proofs.YtooageeehallbaaW.PrintWords Go.Proofs.YtooageeehallbaaW.PrintLast Go.Proofs.YtooageeehallbaaW.PrintMore Go.Proofs.Ytooageeehallbaa.QRunsCut Go.Proofs.Ytooageeehallbaa.Scr
set_option linter.unusedVariables false
set_option linter.unusedSimpArgs false
/-- A cell's values are of their types. -/
def CellT (c : S35) : Prop:=0 ≤ c.f1∧c.f1 ≤ 65535∧0 ≤ c.f2∧c.f2 ≤ 255
def rightV (c : S35) : Bool:=decide (0 ≤ c.f0) && (decide (c.f0 ≤ 1114111) && (!(decide (55296 ≤ c.f0) && decide (c.f0 < 57344)) && (decide (c.f2 ≤ 2) && (((c.f0 == 0) == (c.f2 == 2)) && (decide (c.f1 < 4096) && rightB c.f1)))))
theorem right_v (c : S35) : runs_Right.f c.f0 c.f1 c.f2 = some (rightV c):=by
 unfold runs_Right.f rightV rightB;by_cases h1 : 0 ≤ c.f0
 case neg=>rw [if_pos (by omega),zD h1];rfl
 rw [if_neg (by omega),zC h1];by_cases h2 : c.f0 ≤ 1114111
 case neg=>rw [if_pos (by omega),zD h2];rfl
 rw [if_neg (by omega),zC h2];have hz : ∀ (A : Option Bool),(if ((c.f0 == 0) != (c.f2 == 2)) = true then some false else A) = if ((c.f0 == 0) == (c.f2 == 2)) = true then A else some false:=by
  intro A;cases (c.f0 == 0) <;> cases (c.f2 == 2) <;> rfl
 have fin : (if c.f2 > 2 then some false else (if ((c.f0 == 0) != (c.f2 == 2)) = true then (some false) else (if c.f1 < 4096 then (if (Go.bits .and .u16 c.f1 8) = 0 then (if (Go.bits .and .u16 (c.f1 / 16) 15) ≤ 8 then (some (decide ((Go.bits .and .u16 (c.f1 / 256) 15) ≤ 8))) else (some false)) else (some false)) else (some false)))) = some (decide (c.f2 ≤ 2) && (((c.f0 == 0) == (c.f2 == 2)) && (decide (c.f1 < 4096) && (decide (Go.bits .and .u16 c.f1 8 = 0) && decide (Go.bits .and .u16 (c.f1 / 16) 15 ≤ 8) && decide (Go.bits .and .u16 (c.f1 / 256) 15 ≤ 8))))):=by
  by_cases h5 : c.f2 ≤ 2
  case neg=>rw [if_pos (by omega),zD h5];rfl
  rw [if_neg (by omega),zC h5,hz];cases ((c.f0 == 0) == (c.f2 == 2))
  ·rfl
  rw [if_pos rfl];by_cases h6 : c.f1 < 4096
  case neg=>rw [if_neg h6,zD h6];rfl
  rw [if_pos h6,zC h6];by_cases h7 : Go.bits .and .u16 c.f1 8 = 0
  case neg=>rw [if_neg h7,zD h7];rfl
  rw [if_pos h7,zC h7];by_cases h8 : Go.bits .and .u16 (c.f1 / 16) 15 ≤ 8
  case neg=>rw [if_neg h8,zD h8];rfl
  rw [if_pos h8,zC h8];rfl
 by_cases h3 : 55296 ≤ c.f0
 ·rw [if_pos (by omega),zC h3];by_cases h4 : c.f0 < 57344
  ·rw [if_pos h4,zC h4];rfl
  ·rw [if_neg h4,zD h4,fin];rfl
 ·rw [if_neg (by omega),zD h3,fin];rfl
theorem cellright_v (c : S35) : repriseref5_CellRight.f c.f0 c.f1 c.f2 = some (rightV c):=by
 unfold repriseref5_CellRight.f repriseref1_May.f rightV rightB;have fin : (if true = true then (if c.f1 < 4096 then (if (Go.bits .and .u16 c.f1 8) = 0 then (if (Go.bits .and .u16 (c.f1 / 16) 15) ≤ 8 then (if (Go.bits .and .u16 (c.f1 / 256) 15) ≤ 8 then (if c.f2 ≤ 2 then (some ((c.f0 == 0) == (c.f2 == 2))) else (some false)) else (some false)) else (some false)) else (some false)) else (some false)) else (some false)) = some (decide (c.f2 ≤ 2) && (((c.f0 == 0) == (c.f2 == 2)) && (decide (c.f1 < 4096) && (decide (Go.bits .and .u16 c.f1 8 = 0) && decide (Go.bits .and .u16 (c.f1 / 16) 15 ≤ 8) && decide (Go.bits .and .u16 (c.f1 / 256) 15 ≤ 8))))):=by
  rw [if_pos rfl];by_cases h6 : c.f1 < 4096
  case neg=>rw [if_neg h6,zD h6];simp
  rw [if_pos h6,zC h6];by_cases h7 : Go.bits .and .u16 c.f1 8 = 0
  case neg=>rw [if_neg h7,zD h7];simp
  rw [if_pos h7,zC h7];by_cases h8 : Go.bits .and .u16 (c.f1 / 16) 15 ≤ 8
  case neg=>rw [if_neg h8,zD h8];simp
  rw [if_pos h8,zC h8];by_cases h9 : Go.bits .and .u16 (c.f1 / 256) 15 ≤ 8
  case neg=>rw [if_neg h9,zD h9];simp
  rw [if_pos h9,zC h9];by_cases h5 : c.f2 ≤ 2
  case neg=>rw [if_neg h5,zD h5];simp
  rw [if_pos h5,zC h5];simp
 by_cases h1 : 0 ≤ c.f0
 case neg=>rw [if_neg (by omega),zD h1];rfl
 rw [if_pos (by omega),zC h1];by_cases h2 : c.f0 ≤ 1114111
 case neg=>rw [if_neg (by omega),zD h2];rfl
 rw [if_pos h2,zC h2];by_cases h3 : 55296 ≤ c.f0
 ·rw [if_neg (by omega),zC h3,zX];by_cases h4 : c.f0 < 57344
  ·rw [zD (show ¬ c.f0 > 57343 by omega),zC h4];rfl
  ·rw [zC (show c.f0 > 57343 by omega),zD h4,fin];rfl
 ·rw [if_pos (by omega),zD h3,zX,fin];rfl
theorem rightB_attr {a : Int} (h0 : 0 ≤ a) (h1 : a < 4096) (h : rightB a = true) : AttrOk a:=by
 obtain ⟨n,rfl⟩:=Int.eq_ofNat_of_zero_le h0;have hn:=List.all_eq_true.1 (show ((List.range 4096).all fun n=>!rightB (n : Int) || attrB (n : Int)) = true by decide +kernel) n (List.mem_range.2 (by omega));rw [Bool.or_eq_true,h] at hn;rcases hn with hn|hn
 ·cases hn
 ·exact (attrB_iff _).1 hn
theorem right_cell {c : S35} (ht : CellT c) (h : rightV c = true) : CellOk c:=by
 unfold rightV at h;simp only [Bool.and_eq_true,decide_eq_true_eq,Bool.not_eq_true',Bool.and_eq_false_iff,decide_eq_false_iff_not,beq_iff_eq] at h;obtain ⟨h1,h2,h3,h4,h5,h6,h7⟩:=h;refine ⟨h1,h2,by omega,rightB_attr ht.1 h6 h7,ht.2.2.1,h4,?_⟩;constructor
 ·intro e;rw [e] at h5;have : (c.f2 == 2) = true:=by rw [← h5];rfl
  exact beq_iff_eq.1 this
 ·intro e;rw [e] at h5;have : (c.f0 == 0) = true:=by rw [h5];rfl
  exact beq_iff_eq.1 this
/-- What Put tells of cells: their bytes,or none where a cell isn't right. -/
inductive PutR : List S35 → Option (List Int) → Prop
|nil : PutR [] (some [])
|bad (n : Nat) (c : S35) {r : List S35} : rightV c = false → PutR (c :: r) none
|cons (n : Nat) (c : S35) {r : List S35} {o : Option (List Int)} : 1 ≤ n → (∀ d t,r = d :: t → d ≠ c) → rightV c = true → PutR r o → PutR (List.replicate n c ++ r) (o.map (encRun n c ++ ·))
theorem putR_ex (l : List S35) : ∃ o,PutR l o:=by
 generalize hn : l.length = n;induction n using Nat.strongRecOn generalizing l with
|_ n ih =>
  cases l with
 |nil=>exact ⟨_,.nil⟩
 |cons c t =>
   by_cases hr : rightV c = true
   ·obtain ⟨m,r,h1,h2,h3⟩:=runs_split c t;have hl:=congrArg List.length h1;simp only [List.length_cons,zV,List.length_replicate] at hl hn;obtain ⟨b,hb⟩:=ih r.length (by omega) r rfl;rw [h1];exact ⟨_,.cons m c h2 h3 hr hb⟩
   ·exact ⟨none,.bad 0 c (by simpa using hr)⟩
theorem putR_byte {l : List S35} {o : Option (List Int)} (h : PutR l o) : ∀ b,o = some b → ∀ x ∈ b,0 ≤ x∧x < 256:=by
 induction h with
|nil=>intro b hb x h;cases hb;cases h
|bad=>intro b hb;cases hb
|@cons n c r o _ _ _ _ ih =>
  intro b hb x hx;cases o with
 |none=>cases hb
 |some b' =>
   cases hb;rcases List.mem_append.1 hx with h|h
   ·exact encRun_byte _ _ x h
   ·exact ih b' rfl x h
theorem putR_len {l : List S35} {o : Option (List Int)} (h : PutR l o) (ht : ∀ c ∈ l,CellT c) (hl : l.length ≤ 1000000) : ∀ b,o = some b → b.length ≤ 30 * l.length:=by
 induction h with
|nil=>intro b hb;cases hb;exact Nat.zero_le _
|bad=>intro b hb;cases hb
|@cons n c r o hn _ hr _ ih =>
  intro b hb;rw [zV,List.length_replicate] at hl ⊢;cases o with
 |none=>cases hb
 |some b' =>
   cases hb;have hcc:=right_cell (ht c (mem_rep hn r)) hr;have el:=encRun_len (n:=n) hcc (by omega);have:=ih (fun d hd=>ht d (List.mem_append_right _ hd)) (by omega) b' rfl;rw [zV];omega
def putV (x4 : List Int) : Option (List Int) → List Int × Int
|none=>([],27)
|some b=>(x4 ++ b,0)
theorem drop_next {x0 : List S35} {i n : Nat} {c : S35} {r : List S35} (hd : x0.drop i = List.replicate n c ++ r) : x0.drop (i + n) = r:=by
 rw [← List.drop_drop,hd];have:=List.drop_left (l₁:=List.replicate n c) (l₂:=r);rwa [List.length_replicate] at this
theorem put_any {l : List S35} {o : Option (List Int)} (h : PutR l o) : ∀ (x0 : List S35) (x4 : List Int) (i k : Nat),10 ≤ k → x0.drop i = l → (∀ c ∈ l,CellT c) → x0.length ≤ 1000000 → x4.length + 30 * l.length < 140737488350000 →
 runs_Put.l0 (k + 7 * l.length + 1) x0 x4 (i : Int) = some (putV x4 o):=by
 induction h with
|nil =>
  intro x0 x4 i k hk hd hc hl hx;have:=congrArg List.length hd;simp only [List.length_drop,List.length_nil] at this;rw [runs_Put.l0,if_neg (by omega),putV,List.append_nil]
|@bad n c r hr =>
  intro x0 x4 i k hk hd hc hl hx;have hlen:=congrArg List.length hd;simp only [List.length_drop,List.length_cons] at hlen;have h0 : rd_T35 x0 (i : Int) = c:=by
   have:=rd_rep (n:=1) (r:=r) (c:=c) (x:=x0) (i:=i) hd (j:=0) (by omega);simpa using this
  rw [runs_Put.l0,if_pos (by omega),if_pos (by omega),h0,right_v c,hr,zX,if_neg (by decide)];rfl
|@cons n c r o hn hr hv hR ih =>
  intro x0 x4 i k hk hd hc hl hx;have hcc : CellOk c:=right_cell (hc c (mem_rep hn r)) hv;have hlen:=drop_len hd hn;have el:=encRun_len (n:=n) hcc (by omega);rw [zV,List.length_replicate] at hx ⊢;rw [show k + 7 * (n + r.length) + 1 = (k + 6 * n - 6 + 7 * r.length + 1) + n + 6 from by omega,put_step _ (by omega) x0 x4 i n c r hd hn hr hcc hl (by omega)];rw [ih x0 (x4 ++ encRun n c) (i + n) (k + 6 * n - 6) (by omega) (drop_next hd) (fun d hd=>hc d (List.mem_append_right _ hd)) hl (by rw [zV];omega)];cases o with
 |none=>rfl
 |some b=>simp only [Option.map_some,putV,List.append_assoc]
theorem ref_num {c : S35} (h : CellOk c) : IntKind.u64.wrap ((IntKind.u64.wrap (4 * (IntKind.u64.wrap c.f1))) + (IntKind.u64.wrap c.f2)) = c.f1 * 4 + c.f2:=by
 have h1:=h.a.1;have h2:=h.a.2.1;have h3:=h.h0;have h4:=h.h2;rw [u64w c.f1 (by omega) (by omega),u64w (4 * c.f1) (by omega) (by omega),u64w c.f2 (by omega) (by omega),u64w (4 * c.f1 + c.f2) (by omega) (by omega)];omega
theorem puta_ok (l : List S35) {o : Option (List Int)} (ho : PutR l o) (ht : ∀ c ∈ l,CellT c) (hl : l.length ≤ 1000000) : ∃ k,runs_Put.f k l = some (putV [] o) :=
 ⟨_,put_any ho l [] 0 10 (by decide) rfl ht hl (by simp only [List.length_nil];omega)⟩
theorem putV_ok {l : List S35} {o : Option (List Int)} (ho : PutR l o) (ht : ∀ c ∈ l,CellT c) (hl : l.length ≤ 1000000) : (∀ x ∈ (putV [] o).1,0 ≤ x∧x < 256)∧(putV [] o).1.length ≤ 30 * l.length:=by
 constructor
 ·cases o with
 |none=>intro x hx;cases hx
 |some b=>exact putR_byte ho b rfl
 ·cases o with
 |none=>exact Nat.zero_le _
 |some b=>exact putR_len ho ht hl b rfl
end Go.Proofs.Ytooageeehallbaa.Runs
namespace Go.Proofs.Ytooageeehallbaa.Runs
open Go.RowKit Go.Proofs.YtooageeehallbaaW.PrintWords Go.Proofs.YtooageeehallbaaW.PrintLast Go.Proofs.YtooageeehallbaaW.PrintMore Go.Proofs.Ytooageeehallbaa.QRunsCut Go.Proofs.Ytooageeehallbaa.Scr
set_option linter.unusedVariables false
set_option linter.unusedSimpArgs false
theorem eqB_iff {a b : S35} : eqB a b = true ↔ a = b:=by
 constructor
 ·intro h;by_cases e : a = b
  ·exact e
  ·rw [eqB_ne e] at h;cases h
 ·rintro rfl;exact eqB_self a
instance decS35 : DecidableEq S35:=fun a b=>decidable_of_iff (eqB a b = true) eqB_iff
def cellS (t : Int × Int × Int × Int × Int × Int) : S35:=⟨t.2.1,t.2.2.1,t.2.2.2.1⟩
/-- What Read tells of bytes from a place on,behind the cells read so far. -/
def readS (b : List Int) (N : Int) : Nat → List S35 → Nat → List S35 × Int × Int
|0,_,_=>([],0,0)
|f + 1,out,a=>if (out.length : Int) < N then
  (if (decRun (b.drop a)).2.2.2.2.2 = 0 then
   (if (decRun (b.drop a)).1 = 0∨(decRun (b.drop a)).1 > N - (out.length : Int)∨rightV (cellS (decRun (b.drop a))) = false∨out.getLast? = some (cellS (decRun (b.drop a))) then ([],0,21)
    else readS b N f (out ++ List.replicate (decRun (b.drop a)).1.toNat (cellS (decRun (b.drop a)))) (a + (decRun (b.drop a)).2.2.2.2.1.toNat))
   else ([],0,(decRun (b.drop a)).2.2.2.2.2))
  else (out,(a : Int),0)
theorem decRun_ok (l : List Int) (hb : ∀ x ∈ l,0 ≤ x∧x < 256) (h : (decRun l).2.2.2.2.2 = 0) :
 0 ≤ (decRun l).1∧(decRun l).1 < 18446744073709551616∧CellT (cellS (decRun l))∧0 ≤ (decRun l).2.2.2.2.1∧(decRun l).2.2.2.2.1 ≤ l.length:=by
 have hbd : ∀ a,∀ x ∈ l.drop a,0 ≤ x∧x < 256:=fun a x hx=>hb x (List.mem_of_mem_drop hx)
 unfold decRun at h ⊢;have b0:=dec_le l hb;generalize Leb.dec l = d0 at b0 h ⊢;by_cases e0 : d0.2.2 = 0
 case neg=>rw [if_neg e0] at h;exact absurd h e0
 rw [if_pos e0] at h ⊢;replace b0:=b0 e0;have b1:=dec_le (l.drop d0.2.1.toNat) (hbd _);generalize Leb.dec (l.drop d0.2.1.toNat) = d1 at b1 h ⊢;by_cases e1 : d1.2.2 = 0
 case neg=>rw [if_neg e1] at h;exact absurd h e1
 rw [if_pos e1] at h ⊢;replace b1:=b1 e1;rw [List.length_drop] at b1;have b2:=dec_le (l.drop (d0.2.1.toNat + d1.2.1.toNat)) (hbd _);generalize Leb.dec (l.drop (d0.2.1.toNat + d1.2.1.toNat)) = d2 at b2 h ⊢;by_cases e2 : d2.2.2 = 0
 case neg=>rw [if_neg e2] at h;exact absurd h e2
 rw [if_pos e2] at h ⊢;replace b2:=b2 e2;rw [List.length_drop] at b2;by_cases g1 : d1.1 > 1114111
 ·rw [if_pos g1] at h;exact absurd h (show ¬ (21 : Int) = 0 by decide)
 rw [if_neg g1] at h ⊢;by_cases g2 : d2.1 ≥ 16384
 ·rw [if_pos g2] at h;exact absurd h (show ¬ (21 : Int) = 0 by decide)
 rw [if_neg g2];unfold cellS CellT;dsimp only
 omega
theorem last_eqB {out : List S35} {c : S35} (hp : 0 < out.length) : eqB (rd_T35 out ((out.length : Int) - 1)) c = decide (out.getLast? = some c):=by
 cases ho : out.getLast? with
|none =>
  have : out = []:=List.getLast?_eq_none_iff.1 ho;rw [this] at hp;exact absurd hp (by decide)
|some d =>
  rw [rd_last ho];by_cases e : d = c
  ·subst e;rw [eqB_self,zC rfl]
  ·rw [eqB_ne e,zD (fun h=>e (zY h))]
theorem read_any (x0 : List Int) (N : Int) (hb : ∀ x ∈ x0,0 ≤ x∧x < 256) (hx : x0.length < 1000000000) (hN : N < 1000000) : ∀ (f : Nat) (out : List S35) (a : Nat),(N - out.length).toNat < f → out.length ≤ 1000000 → a ≤ x0.length →
 ∃ K,20 ≤ K∧runs_Read.l0 K x0 N out (a : Int) = some (readS x0 N f out a):=by
 intro f;induction f with
|zero=>intro out a h;omega
|succ f ih =>
  intro out a hf ho ha;by_cases hlt : (out.length : Int) < N
  case neg =>
   refine ⟨20,Nat.le_refl _,?_⟩;rw [show (20 : Nat) = 19 + 1 from rfl,runs_Read.l0,if_neg hlt,readS,if_neg hlt]
  have hbd : ∀ x ∈ x0.drop a,0 ≤ x∧x < 256:=fun x hx=>hb x (List.mem_of_mem_drop hx)
  have hok:=decRun_ok (x0.drop a) hbd;have hrun:=fun k hk=>run_dec k (x0.drop a) hbd hk
  rw [readS,if_pos hlt];generalize decRun (x0.drop a) = t at hok hrun ⊢;by_cases he : t.2.2.2.2.2 = 0
  case neg =>
   refine ⟨21,by decide,?_⟩;rw [show (21 : Nat) = 20 + 1 from rfl,runs_Read.l0,if_pos hlt,if_pos (by omega),if_pos (by omega),Int.toNat_natCast,hrun 20 (by decide),zX];rw [if_neg he,if_neg he]
  obtain ⟨q1,q2,q3,q4,q5⟩:=hok he;rw [List.length_drop] at q5;have ew : IntKind.u64.wrap (wrap64 (N - (out.length : Int))) = N - (out.length : Int):=by rw [w64 _ (by omega) (by omega),u64w _ (by omega) (by omega)]
  rw [if_pos he];have hbad : ∀ K (P : Prop) [Decidable P] (e : List S35 × Int × Int),P → runs_Read.j1 (K + 1) x0 N out (a : Int) t.1 t.2.2.2.2.1 true t.2.1 t.2.2.1 t.2.2.2.1 = some (if P then ([],0,21) else e):=by
   intro K P _ e hP;rw [runs_Read.j1,if_pos rfl,if_pos hP]
  by_cases h1 : t.1 = 0
  ·refine ⟨21,by decide,?_⟩;rw [show (21 : Nat) = 20 + 1 from rfl,runs_Read.l0,if_pos hlt,if_pos (by omega),if_pos (by omega),Int.toNat_natCast,hrun 20 (by decide),zX];rw [if_pos he,if_pos h1];exact hbad 19 _ _ (Or.inl h1)
  by_cases h2 : t.1 > N - (out.length : Int)
  ·refine ⟨21,by decide,?_⟩;rw [show (21 : Nat) = 20 + 1 from rfl,runs_Read.l0,if_pos hlt,if_pos (by omega),if_pos (by omega),Int.toNat_natCast,hrun 20 (by decide),zX];rw [if_pos he,if_neg h1,ew,if_pos h2];exact hbad 19 _ _ (Or.inr (Or.inl h2))
  by_cases h3 : rightV (cellS t) = false
  ·refine ⟨21,by decide,?_⟩;have hr:=right_v (cellS t);rw [h3] at hr;have hr' : runs_Right.f t.2.1 t.2.2.1 t.2.2.2.1 = some false:=hr;rw [show (21 : Nat) = 20 + 1 from rfl,runs_Read.l0,if_pos hlt,if_pos (by omega),if_pos (by omega),Int.toNat_natCast,hrun 20 (by decide),zX];rw [if_pos he,if_neg h1,ew,if_neg h2,hr',zX,if_neg (by decide)];exact hbad 19 _ _ (Or.inr (Or.inr (Or.inl h3)))
  have hr:=right_v (cellS t);have h3' : rightV (cellS t) = true:=by simpa using h3
  rw [h3'] at hr;have hr' : runs_Right.f t.2.1 t.2.2.1 t.2.2.2.1 = some true:=hr;by_cases h4 : out.getLast? = some (cellS t)
  ·have hp : 0 < out.length:=by
    cases out with
   |nil=>cases h4
   |cons _ _=>exact Nat.succ_pos _
   refine ⟨21,by decide,?_⟩;have hl:=last_eqB (c:=cellS t) hp;rw [zC h4] at hl;unfold eqB at hl;replace hl : (((rd_T35 out ((out.length : Int) - 1)).f0) == t.2.1 && (((rd_T35 out ((out.length : Int) - 1)).f1) == t.2.2.1 && (((rd_T35 out ((out.length : Int) - 1)).f2) == t.2.2.2.1))) = true:=hl;rw [show (21 : Nat) = 20 + 1 from rfl,runs_Read.l0,if_pos hlt,if_pos (by omega),if_pos (by omega),Int.toNat_natCast,hrun 20 (by decide),zX];rw [if_pos he,if_neg h1,ew,if_neg h2,hr',zX,if_pos rfl,if_pos (by omega),w64 _ (by omega) (by omega),if_pos (by omega),if_pos (by omega),hl];exact hbad 19 _ _ (Or.inr (Or.inr (Or.inr h4)))
  rw [if_neg (fun h=>h.elim h1 (fun h=>h.elim h2 (fun h=>h.elim h3 h4)))];obtain ⟨m,hm⟩:=Int.eq_ofNat_of_zero_le q1;obtain ⟨s,hs⟩:=Int.eq_ofNat_of_zero_le q4;obtain ⟨K,hK,hih⟩:=ih (out ++ List.replicate t.1.toNat (cellS t)) (a + t.2.2.2.2.1.toNat) (by rw [zV,List.length_replicate,hm,Int.toNat_natCast];omega) (by rw [zV,List.length_replicate,hm,Int.toNat_natCast];omega) (by omega);refine ⟨K + m + 3,by omega,?_⟩;have hj : runs_Read.j1 (K + m + 2) x0 N out (a : Int) t.1 t.2.2.2.2.1 false t.2.1 t.2.2.1 t.2.2.2.1 = some (readS x0 N f (out ++ List.replicate t.1.toNat (cellS t)) (a + t.2.2.2.2.1.toNat)):=by
   rw [← hih,runs_Read.j1,if_neg (by decide),hm,hs,Int.toNat_natCast,Int.toNat_natCast];have:=read_l1 K x0 N (a : Int) (s : Int) m (cellS t) (by omega) m out 0 (by omega) (by omega);rw [w64 _ (by omega) (by omega),show (a : Int) + (s : Int) = ((a + s : Nat) : Int) by omega] at this;exact this
  rw [show K + m + 3 = (K + m + 2) + 1 from rfl,runs_Read.l0,if_pos hlt,if_pos (by omega),if_pos (by omega),Int.toNat_natCast,hrun _ (by omega),zX];rw [if_pos he,if_neg h1,ew,if_neg h2,hr',zX,if_pos rfl];rcases Nat.eq_zero_or_pos out.length with hz|hp
  ·rw [if_neg (by omega)];exact hj
  ·have hl:=last_eqB (c:=cellS t) hp;rw [zD h4] at hl;unfold eqB at hl;replace hl : (((rd_T35 out ((out.length : Int) - 1)).f0) == t.2.1 && (((rd_T35 out ((out.length : Int) - 1)).f1) == t.2.2.1 && (((rd_T35 out ((out.length : Int) - 1)).f2) == t.2.2.2.1))) = false:=hl;rw [if_pos (by omega),w64 _ (by omega) (by omega),if_pos (by omega),if_pos (by omega),hl];exact hj
/-- What Read tells of any bytes. -/
def readV (b : List Int) (N : Int) : List S35 × Int × Int:=readS b N (N.toNat + 1) [] 0
theorem reads_ok (b : List Int) (N : Int) (hb : ∀ x ∈ b,0 ≤ x∧x < 256) (hx : b.length < 1000000000) (hN : N < 1000000) : ∃ k,runs_Read.f k b N = some (readV b N):=by
 obtain ⟨K,_,h⟩:=read_any b N hb hx hN (N.toNat + 1) [] 0 (by simp only [List.length_nil];omega) (by simp only [List.length_nil];omega) (Nat.zero_le _);exact ⟨K,h⟩
theorem decRun_drop (l : List Int) (a : Nat) : decRun (l.drop a) = (if (Leb.dec (l.drop a)).2.2 = 0 then (if (Leb.dec (l.drop (a + (Leb.dec (l.drop a)).2.1.toNat))).2.2 = 0 then (if (Leb.dec (l.drop (a + (Leb.dec (l.drop a)).2.1.toNat + (Leb.dec (l.drop (a + (Leb.dec (l.drop a)).2.1.toNat))).2.1.toNat))).2.2 = 0 then
 (if (Leb.dec (l.drop (a + (Leb.dec (l.drop a)).2.1.toNat))).1 > 1114111 then (0,0,0,0,0,21) else if (Leb.dec (l.drop (a + (Leb.dec (l.drop a)).2.1.toNat + (Leb.dec (l.drop (a + (Leb.dec (l.drop a)).2.1.toNat))).2.1.toNat))).1 ≥ 16384 then (0,0,0,0,0,21) else
  ((Leb.dec (l.drop a)).1,(Leb.dec (l.drop (a + (Leb.dec (l.drop a)).2.1.toNat))).1,(Leb.dec (l.drop (a + (Leb.dec (l.drop a)).2.1.toNat + (Leb.dec (l.drop (a + (Leb.dec (l.drop a)).2.1.toNat))).2.1.toNat))).1 / 4,(Leb.dec (l.drop (a + (Leb.dec (l.drop a)).2.1.toNat + (Leb.dec (l.drop (a + (Leb.dec (l.drop a)).2.1.toNat))).2.1.toNat))).1 % 4,
   (Leb.dec (l.drop a)).2.1 + (Leb.dec (l.drop (a + (Leb.dec (l.drop a)).2.1.toNat))).2.1 + (Leb.dec (l.drop (a + (Leb.dec (l.drop a)).2.1.toNat + (Leb.dec (l.drop (a + (Leb.dec (l.drop a)).2.1.toNat))).2.1.toNat))).2.1,0))
 else (0,0,0,0,0,(Leb.dec (l.drop (a + (Leb.dec (l.drop a)).2.1.toNat + (Leb.dec (l.drop (a + (Leb.dec (l.drop a)).2.1.toNat))).2.1.toNat))).2.2))
 else (0,0,0,0,0,(Leb.dec (l.drop (a + (Leb.dec (l.drop a)).2.1.toNat))).2.2))
 else (0,0,0,0,0,(Leb.dec (l.drop a)).2.2)):=by
 unfold decRun;simp only [List.drop_drop,Nat.add_assoc]
/-- A round of it,number by number. -/
theorem readS_err0 {b : List Int} {N : Int} {f : Nat} {out : List S35} {a : Nat} (h : (out.length : Int) < N) (h0 : (Leb.dec (b.drop a)).2.2 ≠ 0) : readS b N (f + 1) out a = ([],0,(Leb.dec (b.drop a)).2.2):=by
 rw [readS,if_pos h,decRun_drop,if_neg h0,if_neg h0]
theorem readS_err1 {b : List Int} {N : Int} {f : Nat} {out : List S35} {a s0 : Nat} {n0 : Int} (h : (out.length : Int) < N) (h0 : Leb.dec (b.drop a) = (n0,(s0 : Int),0)) (h1 : (Leb.dec (b.drop (a + s0))).2.2 ≠ 0) : readS b N (f + 1) out a = ([],0,(Leb.dec (b.drop (a + s0))).2.2):=by
 rw [readS,if_pos h,decRun_drop,h0,if_pos rfl,show ((s0 : Int)).toNat = s0 from Int.toNat_natCast s0,if_neg h1,if_neg h1]
theorem readS_err2 {b : List Int} {N : Int} {f : Nat} {out : List S35} {a s0 s1 : Nat} {n0 n1 : Int} (h : (out.length : Int) < N) (h0 : Leb.dec (b.drop a) = (n0,(s0 : Int),0)) (h1 : Leb.dec (b.drop (a + s0)) = (n1,(s1 : Int),0)) (h2 : (Leb.dec (b.drop (a + s0 + s1))).2.2 ≠ 0) : readS b N (f + 1) out a = ([],0,(Leb.dec (b.drop (a + s0 + s1))).2.2):=by
 rw [readS,if_pos h,decRun_drop,h0];dsimp only
 rw [if_pos rfl,Int.toNat_natCast,h1];dsimp only
 rw [if_pos rfl,Int.toNat_natCast,if_neg h2,if_neg h2]
theorem readS_good {b : List Int} {N : Int} {f : Nat} {out : List S35} {a s0 s1 s2 : Nat} {n0 n1 n2 : Int} (h : (out.length : Int) < N) (h0 : Leb.dec (b.drop a) = (n0,(s0 : Int),0)) (h1 : Leb.dec (b.drop (a + s0)) = (n1,(s1 : Int),0)) (h2 : Leb.dec (b.drop (a + s0 + s1)) = (n2,(s2 : Int),0)) :
 readS b N (f + 1) out a = if n1 > 1114111∨n2 ≥ 16384∨n0 = 0∨n0 > N - (out.length : Int)∨rightV ⟨n1,n2 / 4,n2 % 4⟩ = false∨out.getLast? = some ⟨n1,n2 / 4,n2 % 4⟩ then ([],0,21) else readS b N f (out ++ List.replicate n0.toNat ⟨n1,n2 / 4,n2 % 4⟩) (a + s0 + s1 + s2):=by
 rw [readS,if_pos h,decRun_drop,h0];dsimp only
 rw [if_pos rfl,Int.toNat_natCast,h1];dsimp only
 rw [if_pos rfl,Int.toNat_natCast,h2];dsimp only
 rw [if_pos rfl];by_cases g1 : n1 > 1114111
 ·rw [if_pos g1,if_neg (by decide),if_pos (Or.inl g1)]
 rw [if_neg g1];by_cases g2 : n2 ≥ 16384
 ·rw [if_pos g2,if_neg (by decide),if_pos (Or.inr (Or.inl g2))]
 rw [if_neg g2,if_pos rfl];unfold cellS;dsimp only
 by_cases g3 : n0 = 0∨n0 > N - (out.length : Int)∨rightV ⟨n1,n2 / 4,n2 % 4⟩ = false∨out.getLast? = some ⟨n1,n2 / 4,n2 % 4⟩
 ·rw [if_pos g3,if_pos (Or.inr (Or.inr g3))]
 ·rw [if_neg g3,if_neg (fun h=>h.elim g1 (fun h=>h.elim g2 g3))];congr 1
  omega
end Go.Proofs.Ytooageeehallbaa.Runs
namespace Go.Proofs.Ytooageeehallbaa.Scr
open Go.RowKit Go.Proofs.YtooageeehallbaaW.PrintWords Go.Proofs.YtooageeehallbaaW.PrintLast Go.Proofs.YtooageeehallbaaW.PrintMore Go.Proofs.Ytooageeehallbaa.QRunsCut
set_option linter.unusedVariables false
set_option linter.unusedSimpArgs false
def ActOk (a : S87) : Prop:=(a.f0 = 0 → RuneOk a.f1)∧ParamsOk a.f4∧Bytes8 a.f5
def ActsOk (n : Nat) (l : List S87) : Prop:=l.length ≤ n∧∀ a ∈ l,ActOk a
abbrev Acts (n : Nat) (al : Sl):=Row k87 al (ActsOk n)
theorem Row.F {α : Type} {d : Kd α} {c : Sl} {P : List α → Prop} {W : World} {ok : Nat → Prop} (h : Row d c P W ok) : ∃ l,P l∧c.n = l.length∧l.length ≤ c.c∧Kd.F d W ok c.A l.length l:=by
 obtain ⟨l,hp,hv⟩:=h;obtain ⟨h1,h2,h3⟩:=Kd.V_at hv;exact ⟨l,hp,h1,by omega,h3⟩
/-- One act in a block of its own;it shares its two rows. -/
theorem acts_one {W : World} {ok : Nat → Prop} {g : Nat} {kind r b pv : Int} {p i : Sl} (hg : W.heap[g]? = some (.cells #[.int .i64 kind,.int .i32 r,.int .u8 b,.int .u8 pv,.slice p.A p.n p.c,.slice i.A i.n i.c] 87 (0,0)))
 (hr : kind = 0 → RuneOk r) (hp : Row (Kd.int .i64) p ParamsOk W ok) (hi : Row (Kd.int .u8) i Bytes8 W ok) (hok : ok g) : Acts 1 ⟨some ⟨g,0,none⟩,1,1⟩ W ok:=by
 obtain ⟨lp,hP,hpn,hpc,hpF⟩:=Row.F hp;obtain ⟨li,hI,hin,hic,hiF⟩:=Row.F hi;have hlt : g < W.heap.size:=(Array.getElem?_eq_some_iff.1 hg).1;refine ⟨[⟨kind,r,b,pv,lp,li⟩],⟨Nat.le_refl _,fun a h=>?_⟩,some ⟨g,0,none⟩,1,rfl,Nat.le_refl _,fun W' hW=>?_⟩
 ·rw [List.mem_singleton.1 h];exact ⟨hr,hP,hI⟩
 ·have hg':=(hW g hok hlt).trans hg;refine ⟨rfl,(by decide : 1 ≤ 9223372036854775807),fun _=>⟨⟨g,0,none⟩,rfl,fun j q hq=>?_⟩⟩;have hj : j = 0:=by
   have:=(List.getElem?_eq_some_iff.1 hq).1;have h1 : j < 1:=this;omega
  subst hj;have hq' : (⟨kind,r,b,pv,lp,li⟩ : S87) = q:=zY hq;subst hq';refine ⟨[.int .i64 kind,.int .i32 r,.int .u8 b,.int .u8 pv,.slice p.A lp.length p.c,.slice i.A li.length i.c],rfl,k87_mk W' _ hpc (hpF W' hW) hic (hiF W' hW),fun k u hu=>?_⟩;have hadd : (⟨g,0,none⟩ : Addr).add (0 * 6 + k) = ⟨g,k,none⟩:=by unfold Addr.add;split <;> simp_all
  show W'.cell? ((⟨g,0,none⟩ : Addr).add (0 * 6 + k)) = some u
  rw [hadd,zB W' g k _ 87 (0,0) hg',← hu,hpn,hin];simp
theorem bytes_one {W : World} {ok : Nat → Prop} {g : Nat} {b : Int} (hg : W.heap[g]? = some (.cells #[.int .u8 b] 5 (0,0))) (hb : 0 ≤ b∧b ≤ 255) (hok : ok g) : Row (Kd.int .u8) ⟨some ⟨g,0,none⟩,1,1⟩ Bytes8 W ok:=by
 have hlt : g < W.heap.size:=(Array.getElem?_eq_some_iff.1 hg).1;refine ⟨[b],fun x h=>by rw [List.mem_singleton.1 h];exact hb,some ⟨g,0,none⟩,1,rfl,Nat.le_refl _,fun W' hW=>?_⟩;have hg':=(hW g hok hlt).trans hg;refine ⟨rfl,(by decide : 1 ≤ 9223372036854775807),fun _=>⟨⟨g,0,none⟩,rfl,fun j q hq=>?_⟩⟩;have hj : j = 0:=by
  have:=(List.getElem?_eq_some_iff.1 hq).1;have h1 : j < 1:=this;omega
 subst hj;have hq' : b = q:=zY hq;subst hq';refine ⟨[.int .u8 b],rfl,rfl,fun k u hu=>?_⟩;have hadd : (⟨g,0,none⟩ : Addr).add (0 * 1 + k) = ⟨g,k,none⟩:=by unfold Addr.add;split <;> simp_all
 show W'.cell? ((⟨g,0,none⟩ : Addr).add (0 * 1 + k)) = some u
 rw [hadd,zB W' g k _ 5 (0,0) hg',← hu];simp
theorem ints_one {W : World} {g : Nat} {b : Int} (hg : W.heap[g]? = some (.cells #[.int .i64 b] 3 (0,0))) : (Kd.int .i64).C W (some ⟨g,0,none⟩) 1 [b]:=by
 refine ⟨rfl,(by decide : 1 ≤ 9223372036854775807),fun _=>⟨⟨g,0,none⟩,rfl,fun j q hq=>?_⟩⟩;have hj : j = 0:=by
  have:=(List.getElem?_eq_some_iff.1 hq).1;have h1 : j < 1:=this;omega
 subst hj;have hq' : b = q:=zY hq;subst hq';refine ⟨[.int .i64 b],rfl,rfl,fun k u hu=>?_⟩;have hadd : (⟨g,0,none⟩ : Addr).add (0 * 1 + k) = ⟨g,k,none⟩:=by unfold Addr.add;split <;> simp_all
 show W.cell? ((⟨g,0,none⟩ : Addr).add (0 * 1 + k)) = some u
 rw [hadd,zB W g k _ 3 (0,0) hg,← hu];simp
/-- An empty row that may have a block: made since N0,or none. -/
theorem own_far {v : Value} {N0 k : Nat} {r : Option Nat} (hat : v.ownBlock = r∨∃ b,v.ownBlock = some b∧N0 ≤ b) (hk : k < N0) (hr : r = none:=by rfl) : some k ≠ v.ownBlock:=by
 rcases hat with h|⟨b,h,hb⟩
 ·rw [h,hr];simp
 ·rw [h];intro e;injection e with e
  omega
theorem own_new {v v1 : Value} {N0 N1 g : Nat} {r : Option Nat} (hat : v.ownBlock = r∨∃ b,v.ownBlock = some b∧N0 ≤ b) (hat1 : v1.ownBlock = v.ownBlock∨∃ b,v1.ownBlock = some b∧N1 ≤ b) (hN : N0 ≤ N1) (hv : v1.ownBlock = some g) (hr : r = none:=by rfl) : N0 ≤ g:=by
 rcases hat1 with h1|⟨b,h1,hb⟩
 ·rw [hv] at h1;rcases hat with h|⟨b,h,hb⟩
  ·rw [h,hr] at h1;cases h1
  ·rw [h] at h1;injection h1 with h1;omega
 ·rw [hv] at h1;injection h1 with h1
  omega
theorem params_set {L : List Int} (h : ParamsOk L) {i : Nat} {v : Int} (hv : 0 ≤ v∧v ≤ 65535) : ParamsOk (L.set i v):=by
 refine ⟨by rw [List.length_set];exact h.1,fun p hp=>?_⟩;rcases List.mem_or_eq_of_mem_set hp with hp|hp
 ·exact h.2 p hp
 ·rw [hp];exact hv
theorem params_snoc {L : List Int} (h : ParamsOk L) (hl : L.length < 16) : ParamsOk (L ++ [0]):=by
 refine ⟨by rw [zV];show _ + 1 ≤ 16;omega,fun p hp=>?_⟩;rcases List.mem_append.1 hp with hp|hp
 ·exact h.2 p hp
 ·rw [List.mem_singleton.1 hp];decide
theorem params_rd {L : List Int} (h : ParamsOk L) {i : Int} (h0 : 0 ≤ i) (h1 : i < (L.length : Int)) : 0 ≤ rd L i∧rd L i ≤ 65535:=by
 unfold rd;rw [List.getD_eq_getElem?_getD,List.getElem?_eq_getElem (by omega)];exact h.2 _ (List.getElem_mem _)
theorem u8_range (x : Int) : 0 ≤ IntKind.u8.wrap x∧IntKind.u8.wrap x ≤ 255:=by
 have e : IntKind.u8.wrap x = x % 256:=by simp [IntKind.wrap,IntKind.bits,IntKind.signed]
 rw [e];omega
theorem acts_nil {W : World} {ok : Nat → Prop} (n : Nat) : Acts n ⟨none,0,0⟩ W ok:=Row.nil ⟨Nat.zero_le _,fun _ h=>by cases h⟩
theorem Acts.up {n m : Nat} {al : Sl} {W : World} {ok : Nat → Prop} (h : Acts n al W ok) (hm : n ≤ m) : Acts m al W ok:=Row.imp h (fun l hl=>⟨Nat.le_trans hl.1 hm,hl.2⟩)
/-- What a parser's function comes to. -/
def ParPost (m : Nat) (w : World) (ok : Nat → Prop) (e : Ending) (w' : World) : Prop:=∃ (p' : Par) (al : Sl),e = .returned (.tuple #[.agg (Par.cs p'),.slice al.A al.n al.c])∧ParIn p' w' (fun k=>ok k∨w.heap.size ≤ k)∧Acts m al w' (fun k=>ok k∨w.heap.size ≤ k)∧Below w.heap.size w w'
section
variable {P : Program} {ops : Array Oper} {rest : List Oper} {o : Oper} {a : Act} {W : World} {Q : Exit → Act → World → Prop} {n g : Nat} {cs : Array Value} {t : TypeId}
/-- A literal of one element. -/
theorem bs_one (hgd : o.guard = none) {N : Tmp} (hd : o.dst = some N) {inner : Array Value} {e : TypeId} (hrun : (execOp a.eval o).run P W = .ok (.value (.slice (some ⟨W.heap.size,0,none⟩) 1 1)) (W.alloc (.cells inner e)))
 (h : ∀ g w1,W.heap.size = g → W.grownBy w1 none → w1.heap[g]? = some (.cells inner e (0,0)) → wpList P ops Q rest (a.put (some N) (.slice (some ⟨g,0,none⟩) 1 1)) w1) : wpList P ops Q (o :: rest) a W:=by
 refine Kd.event_run hgd hrun ?_;rw [hd];exact h W.heap.size _ rfl (grown_alloc W _) (heap_alloc_new W _)
theorem bs_one_if {K : Act → World → Prop} (hw : Region.wanted o (yielded ops a.tmps) = true) {N : Option Tmp} (hd : o.dst = N) {inner : Array Value} {e : TypeId} (hrun : (execOp a.eval o).run P W = .ok (.value (.slice (some ⟨W.heap.size,0,none⟩) 1 1)) (W.alloc (.cells inner e)))
 (h : ∀ g w1,W.heap.size = g → W.grownBy w1 none → w1.heap[g]? = some (.cells inner e (0,0)) → K (a.put N (.slice (some ⟨g,0,none⟩) 1 1)) w1) : if Region.wanted o (yielded ops a.tmps) = true then Oper.wp P o a W K Q else K (a.put N undef) W:=by
 rw [if_pos hw];unfold Oper.wp;rw [hrun];subst hd;exact h W.heap.size _ rfl (grown_alloc W _) (heap_alloc_new W _)
/-- A whole number is set in a row of the call's own. -/
theorem row_puti {base cap : Nat} {ok : Nat → Prop} {bs : List Int} {m : Nat} (HR : Kd.R (Kd.int .i64) 3 W base ok (.slice (some ⟨g,0,none⟩) m cap) bs) {i : Int} (h0 : 0 ≤ i) (h1 : i < m) (hgd : o.guard = none) (hd : o.dst = none) {x y : Operand} (ho : o.op = .store 3 x y) (hx : a.eval x = .pointer (some ⟨g,i.toNat,none⟩))
 {h : Int} (hy : a.eval y = .int .i64 h) (hi : (P.info? 3).map (·.size) = some 1)
 (K : ∀ w1,W.grownBy w1 (some g) → Kd.R (Kd.int .i64) 3 w1 base ok (.slice (some ⟨g,0,none⟩) m cap) (bs.set i.toNat h) → wpList P ops Q rest a w1) : wpList P ops Q (o :: rest) a W:=by
 obtain ⟨hn,_⟩:=Kd.R_reads' HR;have HR':=HR;rw [hn] at HR';obtain ⟨hcell,hfro⟩:=Kd.R_cell 0 HR' i h0 (by omega);have hst : (store (⟨g,i.toNat,none⟩ : Addr) (.int .i64 h)).run P W = .ok () (W.setCell ⟨g,i.toNat,none⟩ (.int .i64 h)):=by
  rw [run_store P W _ _ _ rfl,hcell,hfro];rfl
 have hadd : (⟨g,i.toNat,none⟩ : Addr).add 0 = ⟨g,i.toNat,none⟩:=by unfold Addr.add;split <;> simp_all
 have hp:=Kd.R_putg HR i h;have hk:=K _ hp.2 hp.1;cases hq : P.info? 3 with
|none=>simp [hq] at hi
|some i5 =>
  have hsz : i5.size = 1:=by simpa [hq] using hi
  have hsv : (storeVar 3 (⟨g,i.toNat,none⟩ : Addr) (.int .i64 h)).run P W = .ok () (W.setCell ⟨g,i.toNat,none⟩ (.int .i64 h)):=by
   simp [storeVar,sizeOf,typeInfo,hq,hsz,Value.cells,storeCells,hadd,hst]
  refine wpList_plain hgd fun K2 hK2=>?_
  unfold Oper.wp execOp;simp only [ho,hx,hy,Instr.storeAt,Instr.sureAddr,Sem.run_bind,Sem.run_pure,Result.andThen_ok,hsv];show K2 (a.put o.dst undef) _
  have hput : a.put o.dst undef = a:=by rw [hd];rfl
  rw [hput];exact hK2 _ _ hk
theorem bx_ret2 {fn : Func} {p q : Tmp} {ty : TypeId} (hres : fn.results = #[.cell p ty,.tmp q]) {tmps : Array Value} {R : Ending → World → Prop} (b : Bx n t g W cs) (hp : tmps.getD p undef = .pointer (some ⟨g,0,none⟩))
 {d : TypeDesc} (hu : P.underlying ty = some d) (hty : (match d with|.struct _|.array _ _=>true|_=>false) = true) (hi : (P.info? ty).map (·.size) = some cs.size)
 (h : R (.returned (.tuple #[.agg cs,tmps.getD q undef])) W) : bodyPost P fn R .ret ⟨tmps,[]⟩ W:=by
 refine bodyPost_ret (v:=.tuple #[.agg cs,tmps.getD q undef]) ?_ rfl h;rw [results_cell_tmp hres,hp];simp [asAddr,run_loadVar_row W g t ty cs (0,0) d b.bx hu hty hi]
end
theorem rstep_call {u : Sl} {W : World} {ok : Nat → Prop} (hu : Row (Kd.int .u8) u UtfOk W ok) {b : Int} (hb : 0 ≤ b∧b ≤ 255) : Calls Try.prog 60 #[.slice u.A u.n u.c,.int .u8 b] W fun e w'=>∃ q r : Sl,e = .returned (.tuple #[.slice q.A q.n q.c,.slice r.A r.n r.c])∧Row (Kd.int .u8) q UtfOk w' (fun k=>W.heap.size ≤ k)∧Row (Kd.int .i32) r (fun l=>l.length ≤ 2∧∀ x ∈ l,RuneOk x) w' (fun k=>W.heap.size ≤ k)∧Below W.heap.size W w':=by
 obtain ⟨l,hP,hn,hl,hC⟩:=Row.reads hu;obtain ⟨k,q,r,hf,hq,hr⟩:=rstep_ok hP hb;rw [hn];refine (QRunsCut.repriseref1_Step.calls k u.A u.c l b q r W hC hl hf).mono ?_;rintro e w' ⟨v0,v1,rfl,hR0,hR1,hbl⟩
 obtain ⟨c0,rfl,h0⟩:=Row.made (P:=UtfOk) hR0 hq;obtain ⟨c1,rfl,h1⟩:=Row.made (P:=fun l=>l.length ≤ 2∧∀ x ∈ l,RuneOk x) hR1 hr;exact ⟨c0,c1,rfl,h0,h1,hbl⟩
theorem prints_call {r : Sl} {W : World} {ok : Nat → Prop} (hr : Row (Kd.int .i32) r (fun l=>l.length ≤ 2∧∀ x ∈ l,RuneOk x) W ok) : Calls Try.prog 62 #[.slice r.A r.n r.c] W fun e w'=>∃ al : Sl,e = .returned (.slice al.A al.n al.c)∧Acts 2 al w' (fun k=>W.heap.size ≤ k)∧Below W.heap.size W w':=by
 obtain ⟨l,hP,hn,hl,hC⟩:=Row.reads hr;obtain ⟨k,o,hf,ho,hol⟩:=prints_ok hP.2 (by have:=hP.1;omega);rw [hn];refine (QRunsCut.repriseref7_prints.calls k r.A r.c l o W hC hl hf).mono ?_;rintro e w' ⟨v0,rfl,hS,hbl⟩
 obtain ⟨c0,rfl,h0⟩:=Row.made (P:=ActsOk 2) (Kd.S_R hS) ⟨by rw [hol];exact hP.1,fun a ha=>by
  obtain ⟨q0,q1,q2,q3⟩:=ho a ha;exact ⟨fun _=>q1,by rw [q2];exact params_nil,by rw [q3];exact fun _ h=>(by cases h)⟩⟩
 exact ⟨c0,rfl,h0,hbl⟩
theorem with_call {i : Sl} {W : World} {ok : Nat → Prop} (hi : Row (Kd.int .u8) i Bytes8 W ok) (hlen : i.n ≤ 1000000) {b : Int} (hb : 0 ≤ b∧b ≤ 255) : Calls Try.prog 72 #[.slice i.A i.n i.c,.int .u8 b] W fun e w'=>∃ q : Sl,e = .returned (.slice q.A q.n q.c)∧Row (Kd.int .u8) q Bytes8 w' (fun k=>W.heap.size ≤ k)∧Below W.heap.size W w':=by
 obtain ⟨l,hP,hn,hl,hC⟩:=Row.reads hi;rw [hn];refine (QRunsCut.repriseref7_with.calls i.A i.c l b (l ++ [b]) W hC hl ?_).mono ?_
 ·unfold QRunsCut.repriseref7_with.f;rw [if_pos (by simp only [List.length_nil];omega),zX,List.nil_append,if_pos (by omega)]
 rintro e w' ⟨v0,rfl,hR,hbl⟩
 obtain ⟨c0,rfl,h0⟩:=Row.made (P:=Bytes8) hR (fun x hx=>by
  rcases List.mem_append.1 hx with hx|hx
  ·exact hP x hx
  ·rw [List.mem_singleton.1 hx];exact hb)
 exact ⟨c0,rfl,h0,hbl⟩
theorem inter_call (b : Int) (W : World) : Calls Try.prog 71 #[.int .u8 b] W fun e w'=>∃ t : Bool,e = .returned (.bool t)∧Below W.heap.size W w':=by
 obtain ⟨t,ht⟩ : ∃ t,QRunsCut.repriseref7_inter.f b = some t:=by
  unfold QRunsCut.repriseref7_inter.f;split <;> exact ⟨_,rfl⟩
 refine (QRunsCut.repriseref7_inter.calls b t W ht).mono ?_;rintro e w' ⟨rfl,hd⟩
 exact ⟨t,rfl,below_drawn hd⟩
theorem formed_call {u : Sl} {W : World} {ok : Nat → Prop} (hu : Row (Kd.int .u8) u UtfOk W ok) (b : Int) : Calls Try.prog 61 #[.slice u.A u.n u.c,.int .u8 b] W fun e w'=>∃ t : Bool,e = .returned (.bool t)∧Below W.heap.size W w':=by
 obtain ⟨l,hP,hn,hl,hC⟩:=Row.reads hu;obtain ⟨t,ht⟩ : ∃ t,QRunsCut.repriseref7_formed.f l b = some t:=by
  unfold QRunsCut.repriseref7_formed.f;by_cases c : (l.length : Int) = 2
  ·rw [if_pos c,if_pos (by omega),if_pos (show 1 < (l.length : Int) by omega)];repeat' split
   all_goals exact ⟨_,rfl⟩
  ·rw [if_neg c];exact ⟨_,rfl⟩
 rw [hn];refine (QRunsCut.repriseref7_formed.calls u.A u.c l b t W hC hl ht).mono ?_;rintro e w' ⟨rfl,hd⟩
 exact ⟨t,rfl,below_drawn hd⟩
end Go.Proofs.Ytooageeehallbaa.Scr
namespace Go.Proofs.Ytooageeehallbaa.Scr
open Go.RowKit Go.Proofs.YtooageeehallbaaW.PrintWords Go.Proofs.YtooageeehallbaaW.PrintLast Go.Proofs.YtooageeehallbaaW.PrintMore Go.Proofs.Ytooageeehallbaa.QRunsCut
set_option linter.unusedVariables false
set_option linter.unusedSimpArgs false
def Scr.setPar (s : Scr) (p : Par) : Scr:={ s with mode:=p.mode,priv:=p.priv,p:=p.p,i:=p.i,u:=p.u }
theorem Inv.setPar {rows cols : Int} {s : Scr} {W : World} {ok : Nat → Prop} {p : Par} (h : Inv rows cols s W ok) (hp : ParIn p W ok) : Inv rows cols (s.setPar p) W ok:={ h with p:=hp }
section
variable {o : Oper} {a : Act} {W w' : World} {g n : Nat}
theorem par_yields {s : Scr} (b : w'.heap[g]? = some (.cells s.cs 31 (0,0))) {x : Operand} (ho : o.op = .load 29 x) (hx : a.eval x = .pointer (some ⟨g,19,none⟩)) : (execOp a.eval o).run Try.prog w' = .ok (.value (.agg s.par.cs)) w':=by
 have hc : w'.rangeAt g 19 s.par.cs.toList:=by
  intro j v hv;rw [zB w' g (19 + j) _ 31 (0,0) b];have hj : j < 5:=(List.getElem?_eq_some_iff.1 hv).1;have e : j = 0∨j = 1∨j = 2∨j = 3∨j = 4:=by omega
  rcases e with rfl|rfl|rfl|rfl|rfl <;> exact hv
 unfold execOp;simp only [ho];have:=run_loadAt_mid (P:=Try.prog) w' g 19 29 s.par.cs.toList _ hc Try.underlying29 rfl Par.infos;simp only [hx,Sem.run_bind,this,Result.andThen_ok,Sem.run_pure]
theorem par_put {s : Scr} {p : Par} (b : Bx n 31 g W s.cs) {ops : Array Oper} {rest : List Oper} {Q : Exit → Act → World → Prop} (hgd : o.guard = none) (hd : o.dst = none) {x y : Operand} (ho : o.op = .store 29 x y) (hx : a.eval x = .pointer (some ⟨g,19,none⟩)) (hy : a.eval y = .agg p.cs)
 (h : ∀ w1,W.grownBy w1 (some g) → Bx n 31 g w1 (s.setPar p).cs → wpList Try.prog ops Q rest a w1) : wpList Try.prog ops Q (o :: rest) a W:=by
 have hth : W.there g 19 p.cs.size:=by
  intro j hj;have hj : j < 5:=hj;have e : j = 0∨j = 1∨j = 2∨j = 3∨j = 4:=by omega
  refine ⟨?_,by simp [World.frozen?,b.bx]⟩;rw [zB W g (19 + j) _ 31 (0,0) b.bx];rcases e with rfl|rfl|rfl|rfl|rfl <;> rfl
 refine wpList_store_mid hgd 29 x y ho g 19 p.cs hx hy hth Par.infos (Par.all p) ?_;have hput : a.put o.dst undef = a:=by rw [hd];rfl
 rw [hput];have e : W.setCells g 19 p.cs.toList = W.setRow g (s.setPar p).cs:=by
  show ((((W.setCell ⟨g,19,none⟩ _).setCell ⟨g,20,none⟩ _).setCell ⟨g,21,none⟩ _).setCell ⟨g,22,none⟩ _).setCell ⟨g,23,none⟩ _ = _
  rw [setCell_eq_setRow W g 19 _ 31 (0,0) _ b.bx];rw [setCell_eq_setRow _ g 20 _ 31 (0,0) _ (setRow_heap W g _ _ 31 (0,0) b.bx),setRow_setRow];rw [setCell_eq_setRow _ g 21 _ 31 (0,0) _ (setRow_heap W g _ _ 31 (0,0) b.bx),setRow_setRow];rw [setCell_eq_setRow _ g 22 _ 31 (0,0) _ (setRow_heap W g _ _ 31 (0,0) b.bx),setRow_setRow];rw [setCell_eq_setRow _ g 23 _ 31 (0,0) _ (setRow_heap W g _ _ 31 (0,0) b.bx),setRow_setRow];rfl
 rw [e];exact h _ (grown_setRow W g _) ⟨b.hg,setRow_heap W g _ _ 31 (0,0) b.bx⟩
theorem bx_alloc_if {P : Program} {ops : Array Oper} {Q : Exit → Act → World → Prop} {K : Act → World → Prop} {t : TypeId} (hw : Region.wanted o (yielded ops a.tmps) = true) {N : Option Tmp} (hd : o.dst = N) (ho : o.op = .alloc t) {cs : Array Value} (hz : (P.info? t).map (·.zero) = some (some (.agg cs))) (hn : n ≤ W.heap.size)
 (h : ∀ g w1,W.heap.size = g → W.grownBy w1 none → Bx n t g w1 cs → K (a.put N (.pointer (some ⟨g,0,none⟩))) w1) : if Region.wanted o (yielded ops a.tmps) = true then Oper.wp P o a W K Q else K (a.put N undef) W:=by
 rw [if_pos hw];cases hq : P.info? t with
|none=>simp [hq] at hz
|some i =>
  have hi : i.zero = some (.agg cs):=by simpa [hq] using hz
  unfold Oper.wp execOp;simp only [ho,Sem.run_bind,Instr.alloc,zeroValue,typeInfo,hq,hi,run_program,newVar,newRow,run_newObj_alloc,Sem.run_pure,Result.andThen_ok];subst hd;exact h W.heap.size _ rfl (grown_alloc W _) ⟨hn,heap_alloc_new W _⟩
theorem act_yields {c : Ac} {ad : Addr} {k : Nat} (hc : ∀ j u,c.cs.toList[j]? = some u → w'.cell? (ad.add (k * 6 + j)) = some u) {x : Operand} (ho : o.op = .load 87 x) (hx : a.eval x = .pointer (some (ad.add (k * 6)))) : (execOp a.eval o).run Try.prog w' = .ok (.value (.agg c.cs)) w':=by
 have hl : (loadCells (ad.add (k * 6)) c.cs.toList.length).run Try.prog w' = .ok c.cs.toList.toArray w' :=
  run_loadCells_list w' (ad.add (k * 6)) c.cs.toList (fun j v hv=>by rw [Go.Proofs.YtooageeehallbaaW.PrintWords.add_add];exact hc j v hv)
 have hagg : (isAgg 87).run Try.prog w' = .ok true w':=by
  unfold isAgg;rw [Sem.run_bind,run_underlying Try.underlying87 w'];rfl
 have hsz:=Ac.infos;cases hq : Try.prog.info? 87 with
|none=>simp [hq] at hsz
|some i =>
  have hs : i.size = 6:=by simpa [hq] using hsz
  have hl6 : (loadCells (ad.add (k * 6)) 6).run Try.prog w' = .ok c.cs w':=hl;unfold execOp;simp only [ho,hx,Instr.loadAt,Instr.sureAddr,loadVar,Sem.run_bind,Sem.run_pure,Result.andThen_ok,hagg,if_true,sizeOf,typeInfo,run_program,hq,hs,hl6]
/-- An act of a row that is read. -/
theorem acts_at {m : Nat} {al : Sl} {ok : Nat → Prop} (h : Acts m al W ok) {k : Int} (h0 : 0 ≤ k) (h1 : k < (al.n : Int)) : ∃ (ad : Addr) (c : Ac),al.A = some ad∧(∀ j u,c.cs.toList[j]? = some u → W.cell? (ad.add (k.toNat * 6 + j)) = some u)∧ActIn c W ok:=by
 obtain ⟨l,hl,hn,hc,hF⟩:=Row.F h;obtain ⟨ad,c,e,hsz,hFK,hcell⟩:=ReadsRow.get_ (Kd.F_rows hF) z87 k h0 (by omega);obtain ⟨A4,c4,A5,c5,rfl,l4,g4,l5,g5⟩:=k87_openF hFK;have hmem : l.getD k.toNat z87 ∈ l:=by
  rw [List.getD_eq_getElem?_getD,List.getElem?_eq_getElem (by omega)];exact List.getElem_mem _
 obtain ⟨q1,q2,q3⟩:=hl.2 _ hmem;generalize l.getD k.toNat z87 = x at *;exact ⟨ad,⟨x.f0,x.f1,x.f2,x.f3,⟨A4,x.f4.length,c4⟩,⟨A5,x.f5.length,c5⟩⟩,e,hcell,⟨q1,⟨_,q2,Kd.V_mk l4 g4⟩,⟨_,q3,Kd.V_mk l5 g5⟩⟩⟩
end
end Go.Proofs.Ytooageeehallbaa.Scr
