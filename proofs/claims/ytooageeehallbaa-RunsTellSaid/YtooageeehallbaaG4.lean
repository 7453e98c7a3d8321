/- Parts of the claim's proof, merged; no condition beyond what each theorem states. -/
import Derived.Test.YtooageeehallbaaG1
import Derived.Test.YtooageeehallbaaG2
import Derived.Test.YtooageeehallbaaG3
namespace Go.Proofs.Ytooageeehallbaa.QRunsCut
open Go.RowKit Go.Proofs.YtooageeehallbaaW.PrintWords Go.Proofs.YtooageeehallbaaW.PrintLast Go.Proofs.YtooageeehallbaaW.PrintMore
attribute [local go_sem] max2_int min2_int max_two min_two max_three min_three max_four min_four 
set_option linter.unusedVariables false
set_option linter.unusedSimpArgs false
/-! ### repriseref7_Delete: function 30 -/
def repriseref7_Delete.l0 : Nat → List (S35) → Int → Int → Int → List (S35) → Int → Option ((List (S35)))
|0,_,_,_,_,_,_=>none
|k + 1,x0,x1,x2,x4,x11,x12=>if x12 < x1 then ((repriseref7_blank.f).bind fun bt601=>(if (wrap64 (x12 + x4)) < x1 then (if 0 ≤ (wrap64 ((wrap64 ((wrap64 (x2 * x1)) + x12)) + x4)) then (if (wrap64 ((wrap64 ((wrap64 (x2 * x1)) + x12)) + x4)) < (x0.length : Int) then (if 0 ≤ (wrap64 ((wrap64 (x2 * x1)) + x12)) then (if (wrap64 ((wrap64 (x2 * x1)) + x12)) < (x11.length : Int) then (repriseref7_Delete.l0 k x0 x1 x2 x4 (x11.set ((wrap64 ((wrap64 (x2 * x1)) + x12)) : Int).toNat (⟨(rd_T35 x0 (wrap64 ((wrap64 ((wrap64 (x2 * x1)) + x12)) + x4))).f0,(rd_T35 x0 (wrap64 ((wrap64 ((wrap64 (x2 * x1)) + x12)) + x4))).f1,(rd_T35 x0 (wrap64 ((wrap64 ((wrap64 (x2 * x1)) + x12)) + x4))).f2⟩ : S35)) (wrap64 (x12 + 1))) else (none)) else (none)) else (none)) else (none)) else (if 0 ≤ (wrap64 ((wrap64 (x2 * x1)) + x12)) then (if (wrap64 ((wrap64 (x2 * x1)) + x12)) < (x11.length : Int) then (repriseref7_Delete.l0 k x0 x1 x2 x4 (x11.set ((wrap64 ((wrap64 (x2 * x1)) + x12)) : Int).toNat (⟨bt601.1,bt601.2.1,bt601.2.2⟩ : S35)) (wrap64 (x12 + 1))) else (none)) else (none)))) else ((repriseref7_Mend.f k x11 x1 x2).bind fun t608=>(some t608))
def repriseref7_Delete.f (k : Nat) (l0 : List (S35)) (a1 : Int) (a2 : Int) (a3 : Int) (a4 : Int) : Option ((List (S35))):=(repriseref7_own.f l0).bind fun t597=>((repriseref7_place.f l0 a1 a2 a3).bind fun t600=>(if t600 = true then (repriseref7_Delete.l0 k l0 a1 a2 (mn (mx a4 0) 1000) t597 a3) else (some t597)))
theorem repriseref7_Delete.mono_l : ∀ k,(∀ y0 y1 y2 y3 y4 y5,LeO (repriseref7_Delete.l0 k y0 y1 y2 y3 y4 y5) (repriseref7_Delete.l0 (k + 1) y0 y1 y2 y3 y4 y5))
|0=>fun _ _ _ _ _ _ r h=>by simp [repriseref7_Delete.l0] at h
|k + 1=>by
  have ih0:=repriseref7_Delete.mono_l k
  ·intro y0 y1 y2 y3 y4 y5;unfold repriseref7_Delete.l0;repeat' first
  |(with_reducible exact ih0 _ _ _ _ _ _)
  |(with_reducible exact repriseref7_Mend.mono _ _ _ _)
  |(with_reducible exact LeO.refl _)
  |(with_reducible exact LeO.none _)
  |(with_reducible refine LeO.ite ?_ ?_)
  |(with_reducible refine LeO.bind ?_ (fun _=>?_))
  |exact ih0 _ _ _ _ _ _
  |exact repriseref7_Mend.mono _ _ _ _
  |exact LeO.none _
  |refine LeO.ite ?_ ?_
  |refine LeO.bind ?_ (fun _=>?_)
theorem repriseref7_Delete.mono : ∀ a0 a1 a2 a3 a4 k,LeO (repriseref7_Delete.f k a0 a1 a2 a3 a4) (repriseref7_Delete.f (k + 1) a0 a1 a2 a3 a4):=by
 intro a0 a1 a2 a3 a4 k;have ih0:=repriseref7_Delete.mono_l k;unfold repriseref7_Delete.f;repeat' first
 |(with_reducible exact ih0 _ _ _ _ _ _)
 |(with_reducible exact repriseref7_Mend.mono _ _ _ _)
 |(with_reducible exact LeO.refl _)
 |(with_reducible exact LeO.none _)
 |(with_reducible refine LeO.ite ?_ ?_)
 |(with_reducible refine LeO.bind ?_ (fun _=>?_))
 |exact ih0 _ _ _ _ _ _
 |exact repriseref7_Mend.mono _ _ _ _
 |exact LeO.none _
 |refine LeO.ite ?_ ?_
 |refine LeO.bind ?_ (fun _=>?_)
set_option maxHeartbeats 8000000 in
set_option maxRecDepth 100000 in
theorem repriseref7_Delete.calls (k : Nat) (A0 : Option Addr) (c0 : Nat) (l0 : List (S35)) (a1 : Int) (a2 : Int) (a3 : Int) (a4 : Int) (r : List (S35)) (w : World) (hr0 : Kd.C k35 w A0 l0.length l0) (hc0 : l0.length ≤ c0) (h : repriseref7_Delete.f k l0 a1 a2 a3 a4 = some r) :
 Calls Try.prog 30 #[.slice A0 l0.length c0,.int .i64 a1,.int .i64 a2,.int .i64 a3,.int .i64 a4] w fun e w'=>∃ v0_ : Value,e = .returned (v0_)∧Kd.R k35 35 w' w.heap.size (fun _=>True) v0_ r∧Below w.heap.size w w':=by
 have hu35:=Try.underlying35;have HR0:=zA hr0;have HC0:=zA hc0;clear hr0 hc0;have HB:=zA (zE w.heap.size w);have H : ((repriseref7_own.f l0).bind fun t597=>((repriseref7_place.f l0 a1 a2 a3).bind fun t600=>(if t600 = true then (repriseref7_Delete.l0 k l0 a1 a2 (mn (mx a4 0) 1000) t597 a3) else (some t597)))) = some r:=h;clear h;replace H:=Option.bind_eq_some_iff.mp H;obtain ⟨t597,A60,H⟩:=H;replace H : ((repriseref7_place.f l0 a1 a2 a3).bind fun t600=>(if t600 = true then (repriseref7_Delete.l0 k l0 a1 a2 (mn (mx a4 0) 1000) t597 a3) else (some t597))) = some r:=H;have A6:=zA A60;clear A60;replace H:=Option.bind_eq_some_iff.mp H;obtain ⟨t600,A70,H⟩:=H;replace H : (if t600 = true then (repriseref7_Delete.l0 k l0 a1 a2 (mn (mx a4 0) 1000) t597 a3) else (some t597)) = some r:=H;have A7:=zA A70;clear A70;by_cases c8 : t600 = true
 ·subst c8;have H1 : (repriseref7_Delete.l0 k l0 a1 a2 (mn (mx a4 0) 1000) t597 a3) = some r:=by rw [if_pos rfl] at H;exact H
  clear H;have H:=H1;clear H1;obtain ⟨ji9,hji9⟩ : ∃ j_ : Int,(mx a4 0) = j_:=⟨_,rfl⟩;replace H : (repriseref7_Delete.l0 k l0 a1 a2 (mn (ji9) 1000) t597 a3) = some r:=by (rw [hji9] at H;exact H)
  (try (have hji9l : 0 ≤ ji9:=by (rw [← hji9];unfold mx;(repeat' split) <;> omega)));(try (have hji9m : 0 ≤ ji9:=by omega));have hji9_ : (if a4 < 0 then 0 else a4) = ji9:=hji9;obtain ⟨ji10,hji10⟩ : ∃ j_ : Int,(mn (ji9) 1000) = j_:=⟨_,rfl⟩;replace H : (repriseref7_Delete.l0 k l0 a1 a2 ji10 t597 a3) = some r:=by (rw [hji10] at H;exact H)
  have hji10_ : (if 1000 < (ji9) then 1000 else (ji9)) = ji10:=hji10;have H':=zA H;clear H;go_enter Try.func30,Try.ntmps30
  go_wp2_with (first|((with_reducible refine zI (f:=51) rfl ?_);refine goesL_ (some 15) rfl rfl Try.func51 (by kernel_rfl) rfl #[.slice A0 l0.length c0] rfl (by (try simp only [zS,zT,zU]);rfl) ?_;(with_reducible refine (repriseref7_own.calls _ _ l0 t597 _ ?side1 ?side2 A6.out).mono ?_);(case side1=>exact HR0.out);(case side2=>exact HC0.out);rintro e w11 ⟨v598,rfl,ho0,hb⟩;refine ⟨_,rfl,?_⟩;have n0_:=zA (Kd.R_lower ho0 (below_size HB.out));have n1_:=zA (below_step HB.out hb);clear HB;have HO599:=n0_;have HB:=n1_;clear n0_ n1_;(try clear hb);(try clear ho0))|((with_reducible refine zI (f:=54) rfl ?_);refine goesL_ (some 20) rfl rfl Try.func54 (by kernel_rfl) rfl #[.slice A0 l0.length c0,.int .i64 a1,.int .i64 a2,.int .i64 a3] rfl (by (try simp only [zS,zT,zU]);rfl) ?_;(with_reducible refine (repriseref7_place.calls _ _ l0 a1 a2 a3 true _ ?side1 ?side2 A7.out).mono ?_);(case side1=>exact (Kd.C_below HR0.out HB.out));(case side2=>exact HC0.out);rintro e w' ⟨rfl,⟨nd,rfl⟩⟩;refine ⟨_,rfl,?_⟩));go_loopg [12] k (fun kq v12 w'=>∃ (x11_1 : List (S35)) (x12_1 : Int),v12 = .int .i64 x12_1∧Aside0 (repriseref7_Delete.l0 kq l0 a1 a2 ji10 x11_1 x12_1 = some r)∧Aside0 (kq ≤ k)∧Aside0 (Kd.R k35 35 w' w.heap.size (fun _=>True) v598 x11_1)∧Aside0 (Below w.heap.size w w'))
  case atStart=>exact ⟨(t597),(a3),(by rfl),H',⟨Nat.le_refl _⟩,⟨by (with_reducible repeat (apply Kd.R_drewN));exact HO599.out⟩,⟨by repeat ((with_reducible first|exact HB.out|apply pw_below_drewN))⟩⟩
  case round =>
   clear H';(try clear p2);(try clear c3);(try clear c5);(try clear c8);obtain ⟨x11_1,x12_1,rfl,HA,HK1,HO_11,HB⟩:=hrel;cases gk with
  |zero=>exact absurd HA.out (by simp [repriseref7_Delete.l0])
  |succ k1 =>
    have H:=HA.out;clear HA;simp only [repriseref7_Delete.l0] at H;by_cases c12 : x12_1 < a1
    ·rw [if_pos c12] at H;have c12b0 : decide (x12_1 < a1) = true:=zC c12;clear c12;replace H:=Option.bind_eq_some_iff.mp H;obtain ⟨⟨t601,t602,t603⟩,A130,H⟩:=H;replace H : (if (wrap64 (x12_1 + ji10)) < a1 then (if 0 ≤ (wrap64 ((wrap64 ((wrap64 (a2 * a1)) + x12_1)) + ji10)) then (if (wrap64 ((wrap64 ((wrap64 (a2 * a1)) + x12_1)) + ji10)) < (l0.length : Int) then (if 0 ≤ (wrap64 ((wrap64 (a2 * a1)) + x12_1)) then (if (wrap64 ((wrap64 (a2 * a1)) + x12_1)) < (x11_1.length : Int) then (repriseref7_Delete.l0 k1 l0 a1 a2 ji10 (x11_1.set ((wrap64 ((wrap64 (a2 * a1)) + x12_1)) : Int).toNat (⟨(rd_T35 l0 (wrap64 ((wrap64 ((wrap64 (a2 * a1)) + x12_1)) + ji10))).f0,(rd_T35 l0 (wrap64 ((wrap64 ((wrap64 (a2 * a1)) + x12_1)) + ji10))).f1,(rd_T35 l0 (wrap64 ((wrap64 ((wrap64 (a2 * a1)) + x12_1)) + ji10))).f2⟩ : S35)) (wrap64 (x12_1 + 1))) else (none)) else (none)) else (none)) else (none)) else (if 0 ≤ (wrap64 ((wrap64 (a2 * a1)) + x12_1)) then (if (wrap64 ((wrap64 (a2 * a1)) + x12_1)) < (x11_1.length : Int) then (repriseref7_Delete.l0 k1 l0 a1 a2 ji10 (x11_1.set ((wrap64 ((wrap64 (a2 * a1)) + x12_1)) : Int).toNat (⟨t601,t602,t603⟩ : S35)) (wrap64 (x12_1 + 1))) else (none)) else (none))) = some r:=H;have A13:=zA A130;clear A130;by_cases c14 : (wrap64 (x12_1 + ji10)) < a1
     ·rw [if_pos c14] at H;have c14b0 : decide ((wrap64 (x12_1 + ji10)) < a1) = true:=zC c14;clear c14;obtain ⟨ji15,hji15⟩ : ∃ j_ : Int,(wrap64 ((wrap64 ((wrap64 (a2 * a1)) + x12_1)) + ji10)) = j_:=⟨_,rfl⟩;replace H : (if 0 ≤ (ji15) then (if (ji15) < (l0.length : Int) then (if 0 ≤ (wrap64 ((wrap64 (a2 * a1)) + x12_1)) then (if (wrap64 ((wrap64 (a2 * a1)) + x12_1)) < (x11_1.length : Int) then (repriseref7_Delete.l0 k1 l0 a1 a2 ji10 (x11_1.set ((wrap64 ((wrap64 (a2 * a1)) + x12_1)) : Int).toNat (⟨(rd_T35 l0 (ji15)).f0,(rd_T35 l0 (ji15)).f1,(rd_T35 l0 (ji15)).f2⟩ : S35)) (wrap64 (x12_1 + 1))) else (none)) else (none)) else (none)) else (none)) = some r:=by (rw [hji15] at H;exact H)
      have hji15w : (IntKind.i64.wrap ((wrap64 ((wrap64 (a2 * a1)) + x12_1)) + ji10)) = ji15:=(i64_w _).trans hji15;by_cases c16 : 0 ≤ (ji15)
      ·rw [if_pos c16] at H;have c16b0 : decide (0 ≤ (ji15)) = true:=zC c16;clear c16;by_cases c17 : (ji15) < (l0.length : Int)
       ·rw [if_pos c17] at H;have c17b0 : decide ((ji15) < (l0.length : Int)) = true:=zC c17;clear c17;obtain ⟨ji18,hji18⟩ : ∃ j_ : Int,(wrap64 ((wrap64 (a2 * a1)) + x12_1)) = j_:=⟨_,rfl⟩;replace H : (if 0 ≤ (ji18) then (if (ji18) < (x11_1.length : Int) then (repriseref7_Delete.l0 k1 l0 a1 a2 ji10 (x11_1.set ((ji18) : Int).toNat (⟨(rd_T35 l0 (ji15)).f0,(rd_T35 l0 (ji15)).f1,(rd_T35 l0 (ji15)).f2⟩ : S35)) (wrap64 (x12_1 + 1))) else (none)) else (none)) = some r:=by (rw [hji18] at H;exact H)
        have hji18w : (IntKind.i64.wrap ((wrap64 (a2 * a1)) + x12_1)) = ji18:=(i64_w _).trans hji18;(try rw [hji18] at hji15);(try rw [hji18] at hji15w);by_cases c19 : 0 ≤ (ji18)
        ·rw [if_pos c19] at H;have c19b0 : decide (0 ≤ (ji18)) = true:=zC c19;clear c19;by_cases c20 : (ji18) < (x11_1.length : Int)
         ·rw [if_pos c20] at H;have c20b0 : decide ((ji18) < (x11_1.length : Int)) = true:=zC c20;clear c20;obtain ⟨y606,hy606⟩ : ∃ y_ : List (S35),y_ = (x11_1.set ((ji18) : Int).toNat (⟨(rd_T35 l0 (ji15)).f0,(rd_T35 l0 (ji15)).f1,(rd_T35 l0 (ji15)).f2⟩ : S35)):=⟨_,rfl⟩;replace H : (repriseref7_Delete.l0 k1 l0 a1 a2 ji10 y606 (wrap64 (x12_1 + 1))) = some r:=by (rw [hy606];with_reducible exact H)
          have Ny606:=zA hy606;clear hy606;have H':=zA H;clear H;go_wp2_with (first|((with_reducible refine zI (f:=53) rfl ?_);refine goesL_ (some 32) rfl rfl Try.func53 (by kernel_rfl) rfl #[] rfl (by (try simp only [zS,zT,zU]);done) ?_;(with_reducible refine (repriseref7_blank.calls  t601 t602 t603 _ A13.out).mono ?_);rintro e w22 ⟨rfl,hb⟩;refine ⟨_,rfl,?_⟩;have n0_:=zA (Kd.R_below HO_11.out hb);have n1_:=zA (below_step HB.out hb);clear HO_11;clear HB;have HO_11:=n0_;have HB:=n1_;clear n0_ n1_;(try clear hb))|((with_reducible refine zG (N:=13) rfl ?_);refine box_event ?hg (N:=13) ?hd (cs:=#[.int .i32 0,.int .u16 0,.int .u8 0]) (t:=35) ?hr ?_;(case hd=>rfl);(case hg=>rfl);(case hr=>(go_simp;done));intro gb604 hg w23 hbox hb;have n0_:=zA (Kd.R_below (Kd.R_elderB HO_11.out gb604 (Nat.le_of_eq hg.symm)) hb);have n1_:=zA (below_step HB.out hb);have n2_:=zA (hbox);have n3_:=zA ((by rw [hg];exact (below_size HB.out) : w.heap.size ≤ gb604));have n4_:=zA ((by rw [hg];exact (below_size HB.out) : w.heap.size ≤ gb604));clear HO_11;clear HB;have HO_11:=n0_;have HB:=n1_;have BK604:=n2_;have GW604:=n3_;have GE604:=n4_;clear n0_ n1_ n2_ n3_ n4_;clear hb hbox hg;have hcz24_0 : w23.cell? ⟨gb604,0,none⟩ = some (.int .i32 0):=(blk_cell BK604.out 0).trans rfl;have hcz24_1 : w23.cell? ⟨gb604,1,none⟩ = some (.int .u16 0):=(blk_cell BK604.out 1).trans rfl;have hcz24_2 : w23.cell? ⟨gb604,2,none⟩ = some (.int .u8 0):=(blk_cell BK604.out 2).trans rfl;have hfz24_0:=blk_frozen BK604.out 0;have hfz24_1:=blk_frozen BK604.out 1;have hfz24_2:=blk_frozen BK604.out 2)|((with_reducible refine zH (t:=35) (p:=13) rfl ?_);refine store_event (t:=35) (p:=13) (v:=?vo_w25) (w1:=(((w23.setCell ⟨gb604,0,none⟩ (.int .i32 t601)).setCell ⟨gb604,1,none⟩ (.int .u16 t602)).setCell ⟨gb604,2,none⟩ (.int .u8 t603))) ?hg ?ho ?hn ?hr ?_;(case ho=>rfl);(case hg=>rfl);(case hn=>rfl);(case hr=>(go_simp;done));intro w25 hw;have n0_ : Aside0 (Kd.R k35 35 w25 w.heap.size (fun k_=>k_ ≠ gb604) v598 x11_1):=⟨(by rw [hw];exact (by exact Kd.R_mono (Kd.R_far (p:=⟨gb604,2,none⟩) (Kd.R_far (p:=⟨gb604,1,none⟩) (Kd.R_far (p:=⟨gb604,0,none⟩) (Kd.R_mono HO_11.out (fun k_ hk=>(⟨hk,hk.2⟩ : _∧k_ ≠ gb604))) (fun _ hk=>hk.2) (.int .i32 t601)) (fun _ hk=>hk.2) (.int .u16 t602)) (fun _ hk=>hk.2) (.int .u8 t603)) (fun _ hk=>hk.1.2)))⟩;have n1_ : Aside0 (w25.heap[gb604]? = some (.cells #[.int .i32 t601,.int .u16 t602,.int .u8 t603] 35 (0,0))):=⟨(by rw [hw];exact (by refine blk_put (cs:=#[.int .i32 t601,.int .u16 t602,.int .u8 0]) ?_ 2 _ rfl;refine blk_put (cs:=#[.int .i32 t601,.int .u16 0,.int .u8 0]) ?_ 1 _ rfl;refine blk_put (cs:=#[.int .i32 0,.int .u16 0,.int .u8 0]) ?_ 0 _ rfl;exact BK604.out))⟩;have n2_ : Aside0 (Below w.heap.size w w25):=⟨(by rw [hw];exact (by repeat ((with_reducible first|exact HB.out|refine below_set ?_ GE604.out))))⟩;clear hw;clear HO_11;clear BK604;clear HB;have HO_11:=n0_;have BK604:=n1_;have HB:=n2_;clear n0_ n1_ n2_;have p605 : 0 ≤ ((ji15) : Int):=od;have q605 : (ji15) < (l0.length : Int):=od;obtain ⟨ad605,e605,hx605_0,hx605_1,hx605_2⟩:=at_T35 HR0.out (ji15) p605 q605;cases e605;replace hx605_0:=cx HB hx605_0;replace hx605_1:=cx HB hx605_1;replace hx605_2:=cx HB hx605_2;replace p605:=eq_true p605;replace q605:=eq_true q605;have hcz26_0 : w25.cell? ⟨gb604,0,none⟩ = some (.int .i32 t601):=(blk_cell BK604.out 0).trans rfl;have hcz26_1 : w25.cell? ⟨gb604,1,none⟩ = some (.int .u16 t602):=(blk_cell BK604.out 1).trans rfl;have hcz26_2 : w25.cell? ⟨gb604,2,none⟩ = some (.int .u8 t603):=(blk_cell BK604.out 2).trans rfl;have hfz26_0:=blk_frozen BK604.out 0;have hfz26_1:=blk_frozen BK604.out 1;have hfz26_2:=blk_frozen BK604.out 2)|((with_reducible refine zH (t:=35) (p:=13) rfl ?_);refine store_event (t:=35) (p:=13) (v:=?vo_w27) (w1:=(((w25.setCell ⟨gb604,0,none⟩ (.int .i32 ((rd_T35 l0 (ji15)).f0))).setCell ⟨gb604,1,none⟩ (.int .u16 ((rd_T35 l0 (ji15)).f1))).setCell ⟨gb604,2,none⟩ (.int .u8 ((rd_T35 l0 (ji15)).f2)))) ?hg ?ho ?hn ?hr ?_;(case ho=>rfl);(case hg=>rfl);(case hn=>rfl);(case hr=>(go_simp;done));intro w27 hw;have n0_ : Aside0 (Kd.R k35 35 w27 w.heap.size (fun k_=>k_ ≠ gb604) v598 x11_1):=⟨(by rw [hw];exact (by exact Kd.R_mono (Kd.R_far (p:=⟨gb604,2,none⟩) (Kd.R_far (p:=⟨gb604,1,none⟩) (Kd.R_far (p:=⟨gb604,0,none⟩) (Kd.R_mono HO_11.out (fun k_ hk=>(⟨hk,hk⟩ : _∧k_ ≠ gb604))) (fun _ hk=>hk.2) (.int .i32 ((rd_T35 l0 (ji15)).f0))) (fun _ hk=>hk.2) (.int .u16 ((rd_T35 l0 (ji15)).f1))) (fun _ hk=>hk.2) (.int .u8 ((rd_T35 l0 (ji15)).f2))) (fun _ hk=>hk.1)))⟩;have n1_ : Aside0 (w27.heap[gb604]? = some (.cells #[.int .i32 ((rd_T35 l0 (ji15)).f0),.int .u16 ((rd_T35 l0 (ji15)).f1),.int .u8 ((rd_T35 l0 (ji15)).f2)] 35 (0,0))):=⟨(by rw [hw];exact (by refine blk_put (cs:=#[.int .i32 ((rd_T35 l0 (ji15)).f0),.int .u16 ((rd_T35 l0 (ji15)).f1),.int .u8 t603]) ?_ 2 _ rfl;refine blk_put (cs:=#[.int .i32 ((rd_T35 l0 (ji15)).f0),.int .u16 t602,.int .u8 t603]) ?_ 1 _ rfl;refine blk_put (cs:=#[.int .i32 t601,.int .u16 t602,.int .u8 t603]) ?_ 0 _ rfl;exact BK604.out))⟩;have n2_ : Aside0 (Below w.heap.size w w27):=⟨(by rw [hw];exact (by repeat ((with_reducible first|exact HB.out|refine below_set ?_ GE604.out))))⟩;clear hw;clear HO_11;clear BK604;clear HB;have HO_11:=n0_;have BK604:=n1_;have HB:=n2_;clear n0_ n1_ n2_;have hcz28_0 : w27.cell? ⟨gb604,0,none⟩ = some (.int .i32 ((rd_T35 l0 (ji15)).f0)):=(blk_cell BK604.out 0).trans rfl;have hcz28_1 : w27.cell? ⟨gb604,1,none⟩ = some (.int .u16 ((rd_T35 l0 (ji15)).f1)):=(blk_cell BK604.out 1).trans rfl;have hcz28_2 : w27.cell? ⟨gb604,2,none⟩ = some (.int .u8 ((rd_T35 l0 (ji15)).f2)):=(blk_cell BK604.out 2).trans rfl;have hfz28_0:=blk_frozen BK604.out 0;have hfz28_1:=blk_frozen BK604.out 1;have hfz28_2:=blk_frozen BK604.out 2;have p21 : 0 ≤ ((ji18) : Int):=od;have q21 : ((ji18) : Int) < ((x11_1.length : Int) : Int):=od;obtain ⟨go21,co21,eo21,gb21,gl21,cl21,HG21⟩:=Kd.R_form HO_11.out (by omega);(cases eo21);have GB21:=zA gb21;have GG21:=zA HG21;clear gb21 gl21 HG21;obtain ⟨ce21,hcl21,hM21,hcc21,hfr21⟩:=Kd.R_elem HO_11.out z35 ((ji18) : Int) p21 q21;obtain rfl:=k35_openM hM21;have hx21_0 : w27.cell? ⟨go21,((ji18) : Int).toNat * 3,none⟩ = some (.int .i32 ((rd_T35 x11_1 (ji18)).f0)):=hcc21 0 _ rfl;have hx21_1 : w27.cell? ⟨go21,((ji18) : Int).toNat * 3 + 1,none⟩ = some (.int .u16 ((rd_T35 x11_1 (ji18)).f1)):=hcc21 1 _ rfl;have hx21_2 : w27.cell? ⟨go21,((ji18) : Int).toNat * 3 + 2,none⟩ = some (.int .u8 ((rd_T35 x11_1 (ji18)).f2)):=hcc21 2 _ rfl;have hf21_0 : w27.frozen? ⟨go21,((ji18) : Int).toNat * 3,none⟩ = false:=hfr21 0;have hf21_1 : w27.frozen? ⟨go21,((ji18) : Int).toNat * 3 + 1,none⟩ = false:=hfr21 1;have hf21_2 : w27.frozen? ⟨go21,((ji18) : Int).toNat * 3 + 2,none⟩ = false:=hfr21 2;clear hcl21 hcc21 hfr21 hM21;replace p21:=eq_true p21;replace q21:=eq_true q21;have HX29:=zA (show Kd.R k35 35 w27 w.heap.size (fun k_=>k_ ≠ gb604) (.slice (some ⟨go21,0,none⟩) x11_1.length co21) x11_1 from HO_11.out);obtain ⟨ce29,hcl29,hM29,hcc29,hfr29⟩:=Kd.R_elem HX29.out z35 ((ji18) : Int) od (by have h_ : ((ji18) : Int) < ((x11_1.length : Int) : Int):=od;exact h_);obtain rfl:=k35_openM hM29;have HP29:=Kd.R_seg HX29.out ((ji18) : Int) od (by have h_ : ((ji18) : Int) < ((x11_1.length : Int) : Int):=od;exact h_) (seg:=[.int .i32 ((rd_T35 l0 (ji15)).f0),.int .u16 ((rd_T35 l0 (ji15)).f1),.int .u8 ((rd_T35 l0 (ji15)).f2)]) (j:=0) hcl29 hcc29 (show 3 ≤ 3 from by decide) (x':=(⟨(rd_T35 l0 (ji15)).f0,(rd_T35 l0 (ji15)).f1,(rd_T35 l0 (ji15)).f2⟩ : S35)) (k35_mkM _ _ _ (⟨(rd_T35 l0 (ji15)).f0,(rd_T35 l0 (ji15)).f1,(rd_T35 l0 (ji15)).f2⟩ : S35) ) (fun _ hk=>hk);have hx29_0:=hcc29 0 _ rfl;(try simp only [show (k35).sz = 3 from rfl,Nat.mul_one,Nat.add_zero] at hx29_0);have hf29_0:=hfr29 0;(try simp only [show (k35).sz = 3 from rfl,Nat.mul_one,Nat.add_zero] at hf29_0);have hx29_1:=hcc29 1 _ rfl;(try simp only [show (k35).sz = 3 from rfl,Nat.mul_one,Nat.add_zero] at hx29_1);have hf29_1:=hfr29 1;(try simp only [show (k35).sz = 3 from rfl,Nat.mul_one,Nat.add_zero] at hf29_1);have hx29_2:=hcc29 2 _ rfl;(try simp only [show (k35).sz = 3 from rfl,Nat.mul_one,Nat.add_zero] at hx29_2);have hf29_2:=hfr29 2;(try simp only [show (k35).sz = 3 from rfl,Nat.mul_one,Nat.add_zero] at hf29_2);clear hcl29 hcc29 hfr29 hM29)|((with_reducible refine zH (t:=35) (p:=55) rfl ?_);refine store_event (t:=35) (p:=55) (v:=?vo_w30) (w1:=(((w27.setCell ⟨go21,((ji18) : Int).toNat * 3,none⟩ (.int .i32 ((rd_T35 l0 (ji15)).f0))).setCell ⟨go21,((ji18) : Int).toNat * 3 + 1,none⟩ (.int .u16 ((rd_T35 l0 (ji15)).f1))).setCell ⟨go21,((ji18) : Int).toNat * 3 + 2,none⟩ (.int .u8 ((rd_T35 l0 (ji15)).f2)))) ?hg ?ho ?hn ?hr ?_;(case ho=>rfl);(case hg=>rfl);(case hn=>rfl);(case hr=>(go_simp;done));intro w30 hw;have hg : w27.grownBy w30 (some go21):=(by rw [hw];exact HP29.2);have hp_ : Kd.R k35 35 w30 w.heap.size (fun k_=>k_ ≠ gb604) (.slice (some ⟨go21,0,none⟩) x11_1.length co21) y606:=(by rw [hw,Ny606.out];exact HP29.1);clear HP29;have n0_:=zA (hp_);have n1_:=zA (blk_grown (g:=gb604) (o:=.cells #[.int .i32 ((rd_T35 l0 (ji15)).f0),.int .u16 ((rd_T35 l0 (ji15)).f1),.int .u8 ((rd_T35 l0 (ji15)).f2)] 35 (0,0)) BK604.out hg (Kd.R_away HO_11.out (fun _ hk=>hk)));have n2_:=zA ((by rw [hw];exact below_set (below_set (below_set (HB.out) GB21.out) GB21.out) GB21.out : Below w.heap.size w w30));clear HO_11;clear BK604;clear HB;have HO_11:=n0_;have BK604:=n1_;have HB:=n2_;clear n0_ n1_ n2_;clear hg hw hp_));go_roundg k1
          case measure=>have:=HK1.out;omega
          case rel=>exact ⟨(y606),(wrap64 (x12_1 + 1)),(by rfl),H',⟨by have:=HK1.out;omega⟩,⟨by exact Kd.R_mono HO_11.out (fun _ hk=>trivial)⟩,⟨HB.out⟩⟩
         ·rw [if_neg c20] at H;exact absurd H (by simp)
        ·rw [if_neg c19] at H;exact absurd H (by simp)
       ·rw [if_neg c17] at H;exact absurd H (by simp)
      ·rw [if_neg c16] at H;exact absurd H (by simp)
     ·rw [if_neg c14] at H;have c14b0 : decide ((wrap64 (x12_1 + ji10)) < a1) = false:=zD c14;clear c14;obtain ⟨ji31,hji31⟩ : ∃ j_ : Int,(wrap64 ((wrap64 (a2 * a1)) + x12_1)) = j_:=⟨_,rfl⟩;replace H : (if 0 ≤ (ji31) then (if (ji31) < (x11_1.length : Int) then (repriseref7_Delete.l0 k1 l0 a1 a2 ji10 (x11_1.set ((ji31) : Int).toNat (⟨t601,t602,t603⟩ : S35)) (wrap64 (x12_1 + 1))) else (none)) else (none)) = some r:=by (rw [hji31] at H;exact H)
      have hji31w : (IntKind.i64.wrap ((wrap64 (a2 * a1)) + x12_1)) = ji31:=(i64_w _).trans hji31;by_cases c32 : 0 ≤ (ji31)
      ·rw [if_pos c32] at H;have c32b0 : decide (0 ≤ (ji31)) = true:=zC c32;clear c32;by_cases c33 : (ji31) < (x11_1.length : Int)
       ·rw [if_pos c33] at H;have c33b0 : decide ((ji31) < (x11_1.length : Int)) = true:=zC c33;clear c33;obtain ⟨y607,hy607⟩ : ∃ y_ : List (S35),y_ = (x11_1.set ((ji31) : Int).toNat (⟨t601,t602,t603⟩ : S35)):=⟨_,rfl⟩;replace H : (repriseref7_Delete.l0 k1 l0 a1 a2 ji10 y607 (wrap64 (x12_1 + 1))) = some r:=by (rw [hy607];with_reducible exact H)
        have Ny607:=zA hy607;clear hy607;have H':=zA H;clear H;go_wp2_with (first|((with_reducible refine zI (f:=53) rfl ?_);refine goesL_ (some 32) rfl rfl Try.func53 (by kernel_rfl) rfl #[] rfl (by (try simp only [zS,zT,zU]);done) ?_;(with_reducible refine (repriseref7_blank.calls  t601 t602 t603 _ A13.out).mono ?_);rintro e w35 ⟨rfl,hb⟩;refine ⟨_,rfl,?_⟩;have n0_:=zA (Kd.R_below HO_11.out hb);have n1_:=zA (below_step HB.out hb);clear HO_11;clear HB;have HO_11:=n0_;have HB:=n1_;clear n0_ n1_;(try clear hb))|((with_reducible refine zG (N:=13) rfl ?_);refine box_event ?hg (N:=13) ?hd (cs:=#[.int .i32 0,.int .u16 0,.int .u8 0]) (t:=35) ?hr ?_;(case hd=>rfl);(case hg=>rfl);(case hr=>(go_simp;done));intro gb604 hg w36 hbox hb;have n0_:=zA (Kd.R_below (Kd.R_elderB HO_11.out gb604 (Nat.le_of_eq hg.symm)) hb);have n1_:=zA (below_step HB.out hb);have n2_:=zA (hbox);have n3_:=zA ((by rw [hg];exact (below_size HB.out) : w.heap.size ≤ gb604));have n4_:=zA ((by rw [hg];exact (below_size HB.out) : w.heap.size ≤ gb604));clear HO_11;clear HB;have HO_11:=n0_;have HB:=n1_;have BK604:=n2_;have GW604:=n3_;have GE604:=n4_;clear n0_ n1_ n2_ n3_ n4_;clear hb hbox hg;have hcz37_0 : w36.cell? ⟨gb604,0,none⟩ = some (.int .i32 0):=(blk_cell BK604.out 0).trans rfl;have hcz37_1 : w36.cell? ⟨gb604,1,none⟩ = some (.int .u16 0):=(blk_cell BK604.out 1).trans rfl;have hcz37_2 : w36.cell? ⟨gb604,2,none⟩ = some (.int .u8 0):=(blk_cell BK604.out 2).trans rfl;have hfz37_0:=blk_frozen BK604.out 0;have hfz37_1:=blk_frozen BK604.out 1;have hfz37_2:=blk_frozen BK604.out 2)|((with_reducible refine zH (t:=35) (p:=13) rfl ?_);refine store_event (t:=35) (p:=13) (v:=?vo_w38) (w1:=(((w36.setCell ⟨gb604,0,none⟩ (.int .i32 t601)).setCell ⟨gb604,1,none⟩ (.int .u16 t602)).setCell ⟨gb604,2,none⟩ (.int .u8 t603))) ?hg ?ho ?hn ?hr ?_;(case ho=>rfl);(case hg=>rfl);(case hn=>rfl);(case hr=>(go_simp;done));intro w38 hw;have n0_ : Aside0 (Kd.R k35 35 w38 w.heap.size (fun k_=>k_ ≠ gb604) v598 x11_1):=⟨(by rw [hw];exact (by exact Kd.R_mono (Kd.R_far (p:=⟨gb604,2,none⟩) (Kd.R_far (p:=⟨gb604,1,none⟩) (Kd.R_far (p:=⟨gb604,0,none⟩) (Kd.R_mono HO_11.out (fun k_ hk=>(⟨hk,hk.2⟩ : _∧k_ ≠ gb604))) (fun _ hk=>hk.2) (.int .i32 t601)) (fun _ hk=>hk.2) (.int .u16 t602)) (fun _ hk=>hk.2) (.int .u8 t603)) (fun _ hk=>hk.1.2)))⟩;have n1_ : Aside0 (w38.heap[gb604]? = some (.cells #[.int .i32 t601,.int .u16 t602,.int .u8 t603] 35 (0,0))):=⟨(by rw [hw];exact (by refine blk_put (cs:=#[.int .i32 t601,.int .u16 t602,.int .u8 0]) ?_ 2 _ rfl;refine blk_put (cs:=#[.int .i32 t601,.int .u16 0,.int .u8 0]) ?_ 1 _ rfl;refine blk_put (cs:=#[.int .i32 0,.int .u16 0,.int .u8 0]) ?_ 0 _ rfl;exact BK604.out))⟩;have n2_ : Aside0 (Below w.heap.size w w38):=⟨(by rw [hw];exact (by repeat ((with_reducible first|exact HB.out|refine below_set ?_ GE604.out))))⟩;clear hw;clear HO_11;clear BK604;clear HB;have HO_11:=n0_;have BK604:=n1_;have HB:=n2_;clear n0_ n1_ n2_;have hcz39_0 : w38.cell? ⟨gb604,0,none⟩ = some (.int .i32 t601):=(blk_cell BK604.out 0).trans rfl;have hcz39_1 : w38.cell? ⟨gb604,1,none⟩ = some (.int .u16 t602):=(blk_cell BK604.out 1).trans rfl;have hcz39_2 : w38.cell? ⟨gb604,2,none⟩ = some (.int .u8 t603):=(blk_cell BK604.out 2).trans rfl;have hfz39_0:=blk_frozen BK604.out 0;have hfz39_1:=blk_frozen BK604.out 1;have hfz39_2:=blk_frozen BK604.out 2;have p34 : 0 ≤ ((ji31) : Int):=od;have q34 : ((ji31) : Int) < ((x11_1.length : Int) : Int):=od;obtain ⟨go34,co34,eo34,gb34,gl34,cl34,HG34⟩:=Kd.R_form HO_11.out (by omega);(cases eo34);have GB34:=zA gb34;have GG34:=zA HG34;clear gb34 gl34 HG34;obtain ⟨ce34,hcl34,hM34,hcc34,hfr34⟩:=Kd.R_elem HO_11.out z35 ((ji31) : Int) p34 q34;obtain rfl:=k35_openM hM34;have hx34_0 : w38.cell? ⟨go34,((ji31) : Int).toNat * 3,none⟩ = some (.int .i32 ((rd_T35 x11_1 (ji31)).f0)):=hcc34 0 _ rfl;have hx34_1 : w38.cell? ⟨go34,((ji31) : Int).toNat * 3 + 1,none⟩ = some (.int .u16 ((rd_T35 x11_1 (ji31)).f1)):=hcc34 1 _ rfl;have hx34_2 : w38.cell? ⟨go34,((ji31) : Int).toNat * 3 + 2,none⟩ = some (.int .u8 ((rd_T35 x11_1 (ji31)).f2)):=hcc34 2 _ rfl;have hf34_0 : w38.frozen? ⟨go34,((ji31) : Int).toNat * 3,none⟩ = false:=hfr34 0;have hf34_1 : w38.frozen? ⟨go34,((ji31) : Int).toNat * 3 + 1,none⟩ = false:=hfr34 1;have hf34_2 : w38.frozen? ⟨go34,((ji31) : Int).toNat * 3 + 2,none⟩ = false:=hfr34 2;clear hcl34 hcc34 hfr34 hM34;replace p34:=eq_true p34;replace q34:=eq_true q34;have HX40:=zA (show Kd.R k35 35 w38 w.heap.size (fun k_=>k_ ≠ gb604) (.slice (some ⟨go34,0,none⟩) x11_1.length co34) x11_1 from HO_11.out);obtain ⟨ce40,hcl40,hM40,hcc40,hfr40⟩:=Kd.R_elem HX40.out z35 ((ji31) : Int) od (by have h_ : ((ji31) : Int) < ((x11_1.length : Int) : Int):=od;exact h_);obtain rfl:=k35_openM hM40;have HP40:=Kd.R_seg HX40.out ((ji31) : Int) od (by have h_ : ((ji31) : Int) < ((x11_1.length : Int) : Int):=od;exact h_) (seg:=[.int .i32 t601,.int .u16 t602,.int .u8 t603]) (j:=0) hcl40 hcc40 (show 3 ≤ 3 from by decide) (x':=(⟨t601,t602,t603⟩ : S35)) (k35_mkM _ _ _ (⟨t601,t602,t603⟩ : S35) ) (fun _ hk=>hk);have hx40_0:=hcc40 0 _ rfl;(try simp only [show (k35).sz = 3 from rfl,Nat.mul_one,Nat.add_zero] at hx40_0);have hf40_0:=hfr40 0;(try simp only [show (k35).sz = 3 from rfl,Nat.mul_one,Nat.add_zero] at hf40_0);have hx40_1:=hcc40 1 _ rfl;(try simp only [show (k35).sz = 3 from rfl,Nat.mul_one,Nat.add_zero] at hx40_1);have hf40_1:=hfr40 1;(try simp only [show (k35).sz = 3 from rfl,Nat.mul_one,Nat.add_zero] at hf40_1);have hx40_2:=hcc40 2 _ rfl;(try simp only [show (k35).sz = 3 from rfl,Nat.mul_one,Nat.add_zero] at hx40_2);have hf40_2:=hfr40 2;(try simp only [show (k35).sz = 3 from rfl,Nat.mul_one,Nat.add_zero] at hf40_2);clear hcl40 hcc40 hfr40 hM40)|((with_reducible refine zH (t:=35) (p:=55) rfl ?_);refine store_event (t:=35) (p:=55) (v:=?vo_w41) (w1:=(((w38.setCell ⟨go34,((ji31) : Int).toNat * 3,none⟩ (.int .i32 t601)).setCell ⟨go34,((ji31) : Int).toNat * 3 + 1,none⟩ (.int .u16 t602)).setCell ⟨go34,((ji31) : Int).toNat * 3 + 2,none⟩ (.int .u8 t603))) ?hg ?ho ?hn ?hr ?_;(case ho=>rfl);(case hg=>rfl);(case hn=>rfl);(case hr=>(go_simp;done));intro w41 hw;have hg : w38.grownBy w41 (some go34):=(by rw [hw];exact HP40.2);have hp_ : Kd.R k35 35 w41 w.heap.size (fun k_=>k_ ≠ gb604) (.slice (some ⟨go34,0,none⟩) x11_1.length co34) y607:=(by rw [hw,Ny607.out];exact HP40.1);clear HP40;have n0_:=zA (hp_);have n1_:=zA (blk_grown (g:=gb604) (o:=.cells #[.int .i32 t601,.int .u16 t602,.int .u8 t603] 35 (0,0)) BK604.out hg (Kd.R_away HO_11.out (fun _ hk=>hk)));have n2_:=zA ((by rw [hw];exact below_set (below_set (below_set (HB.out) GB34.out) GB34.out) GB34.out : Below w.heap.size w w41));clear HO_11;clear BK604;clear HB;have HO_11:=n0_;have BK604:=n1_;have HB:=n2_;clear n0_ n1_ n2_;clear hg hw hp_));go_roundg k1
        case measure=>have:=HK1.out;omega
        case rel=>exact ⟨(y607),(wrap64 (x12_1 + 1)),(by rfl),H',⟨by have:=HK1.out;omega⟩,⟨by exact Kd.R_mono HO_11.out (fun _ hk=>trivial)⟩,⟨HB.out⟩⟩
       ·rw [if_neg c33] at H;exact absurd H (by simp)
      ·rw [if_neg c32] at H;exact absurd H (by simp)
    ·rw [if_neg c12] at H;have c12b0 : decide (x12_1 < a1) = false:=zD c12;clear c12;replace H:=Option.bind_eq_some_iff.mp H;obtain ⟨t608,A420,H⟩:=H;replace H : (some t608) = some r:=H;have A42:=zA A420;clear A420;obtain rfl:=zY H;obtain ⟨Ao43,co43,eo43⟩:=Kd.R_slice HO_11.out;subst eo43;go_wp2_with (((with_reducible refine zI (f:=32) rfl ?_);refine goesL_ (some 59) rfl rfl Try.func32 (by kernel_rfl) rfl #[.slice Ao43 x11_1.length co43,.int .i64 a1,.int .i64 a2] rfl (by (try simp only [zS,zT,zU]);rfl) ?_;(with_reducible refine (repriseref7_Mend.calls k1 _ _ x11_1 a1 a2 t608 _ ?side1 ?side2 A42.out).mono ?_);(case side1=>exact (Kd.R_reads' HO_11.out).2.2);(case side2=>exact (Kd.R_reads' HO_11.out).2.1);rintro e w44 ⟨v609,rfl,ho0,hb⟩;refine ⟨_,rfl,?_⟩;have n0_:=zA (Kd.R_elder' HO_11.out (Kd.R_base ho0) hb);have n1_:=zA (Kd.R_lower (Kd.R_new' ho0 (Kd.R_lt HO_11.out)) (below_size HB.out));have n2_:=zA (below_step HB.out hb);clear HO_11;clear HB;have HO_11:=n0_;have HO610:=n1_;have HB:=n2_;clear n0_ n1_ n2_;(try clear hb);(try clear ho0)));go_ret;exact ⟨_,by rfl,by exact Kd.R_mono HO610.out (fun _ hk=>trivial),HB.out⟩
 ·replace c8:=Bool.eq_false_iff.mpr c8;subst c8;have H1 : (some t597) = some r:=by rw [if_neg (show ¬ (false = true) by decide)] at H;exact H
  clear H;have H:=H1;clear H1;obtain rfl:=zY H;go_enter Try.func30,Try.ntmps30
  go_wp2_with (first|((with_reducible refine zI (f:=51) rfl ?_);refine goesL_ (some 15) rfl rfl Try.func51 (by kernel_rfl) rfl #[.slice A0 l0.length c0] rfl (by (try simp only [zS,zT,zU]);rfl) ?_;(with_reducible refine (repriseref7_own.calls _ _ l0 t597 _ ?side1 ?side2 A6.out).mono ?_);(case side1=>exact HR0.out);(case side2=>exact HC0.out);rintro e w45 ⟨v598,rfl,ho0,hb⟩;refine ⟨_,rfl,?_⟩;have n0_:=zA (Kd.R_lower ho0 (below_size HB.out));have n1_:=zA (below_step HB.out hb);clear HB;have HO599:=n0_;have HB:=n1_;clear n0_ n1_;(try clear hb);(try clear ho0))|((with_reducible refine zI (f:=54) rfl ?_);refine goesL_ (some 20) rfl rfl Try.func54 (by kernel_rfl) rfl #[.slice A0 l0.length c0,.int .i64 a1,.int .i64 a2,.int .i64 a3] rfl (by (try simp only [zS,zT,zU]);rfl) ?_;(with_reducible refine (repriseref7_place.calls _ _ l0 a1 a2 a3 false _ ?side1 ?side2 A7.out).mono ?_);(case side1=>exact (Kd.C_below HR0.out HB.out));(case side2=>exact HC0.out);rintro e w' ⟨rfl,⟨nd,rfl⟩⟩;refine ⟨_,rfl,?_⟩));go_ret;exact ⟨_,by rfl,by (with_reducible repeat (apply Kd.R_drewN));exact HO599.out,by repeat ((with_reducible first|exact HB.out|apply pw_below_drewN))⟩
end Go.Proofs.Ytooageeehallbaa.QRunsCut
namespace Go.Proofs.Ytooageeehallbaa.QRunsCut
open Go.RowKit Go.Proofs.YtooageeehallbaaW.PrintWords Go.Proofs.YtooageeehallbaaW.PrintLast Go.Proofs.YtooageeehallbaaW.PrintMore
attribute [local go_sem] max2_int min2_int max_two min_two max_three min_three max_four min_four 
set_option linter.unusedVariables false
set_option linter.unusedSimpArgs false
/-! ### repriseref7_Erase: function 31 -/
def repriseref7_Erase.l0 : Nat → Int → Int → Int → List (S35) → Int → Option ((List (S35)))
|0,_,_,_,_,_=>none
|k + 1,x1,x2,x4,x11,x12=>if x12 < x4 then ((repriseref7_blank.f).bind fun bt615=>(if 0 ≤ (wrap64 ((wrap64 (x2 * x1)) + x12)) then (if (wrap64 ((wrap64 (x2 * x1)) + x12)) < (x11.length : Int) then (repriseref7_Erase.l0 k x1 x2 x4 (x11.set ((wrap64 ((wrap64 (x2 * x1)) + x12)) : Int).toNat (⟨bt615.1,bt615.2.1,bt615.2.2⟩ : S35)) (wrap64 (x12 + 1))) else (none)) else (none))) else ((repriseref7_Mend.f k x11 x1 x2).bind fun t619=>(some t619))
def repriseref7_Erase.f (k : Nat) (l0 : List (S35)) (a1 : Int) (a2 : Int) (a3 : Int) (a4 : Int) : Option ((List (S35))):=(repriseref7_own.f l0).bind fun t611=>((repriseref7_place.f l0 a1 a2 0).bind fun t614=>(if t614 = true then (repriseref7_Erase.l0 k a1 a2 (mn (mx a4 0) a1) t611 (mn (mx a3 0) a1)) else (some t611)))
theorem repriseref7_Erase.mono_l : ∀ k,(∀ y0 y1 y2 y3 y4,LeO (repriseref7_Erase.l0 k y0 y1 y2 y3 y4) (repriseref7_Erase.l0 (k + 1) y0 y1 y2 y3 y4))
|0=>fun _ _ _ _ _ r h=>by simp [repriseref7_Erase.l0] at h
|k + 1=>by
  have ih0:=repriseref7_Erase.mono_l k
  ·intro y0 y1 y2 y3 y4;unfold repriseref7_Erase.l0;repeat' first
  |(with_reducible exact ih0 _ _ _ _ _)
  |(with_reducible exact repriseref7_Mend.mono _ _ _ _)
  |(with_reducible exact LeO.refl _)
  |(with_reducible exact LeO.none _)
  |(with_reducible refine LeO.ite ?_ ?_)
  |(with_reducible refine LeO.bind ?_ (fun _=>?_))
  |exact ih0 _ _ _ _ _
  |exact repriseref7_Mend.mono _ _ _ _
  |exact LeO.none _
  |refine LeO.ite ?_ ?_
  |refine LeO.bind ?_ (fun _=>?_)
theorem repriseref7_Erase.mono : ∀ a0 a1 a2 a3 a4 k,LeO (repriseref7_Erase.f k a0 a1 a2 a3 a4) (repriseref7_Erase.f (k + 1) a0 a1 a2 a3 a4):=by
 intro a0 a1 a2 a3 a4 k;have ih0:=repriseref7_Erase.mono_l k;unfold repriseref7_Erase.f;repeat' first
 |(with_reducible exact ih0 _ _ _ _ _)
 |(with_reducible exact repriseref7_Mend.mono _ _ _ _)
 |(with_reducible exact LeO.refl _)
 |(with_reducible exact LeO.none _)
 |(with_reducible refine LeO.ite ?_ ?_)
 |(with_reducible refine LeO.bind ?_ (fun _=>?_))
 |exact ih0 _ _ _ _ _
 |exact repriseref7_Mend.mono _ _ _ _
 |exact LeO.none _
 |refine LeO.ite ?_ ?_
 |refine LeO.bind ?_ (fun _=>?_)
set_option maxHeartbeats 8000000 in
set_option maxRecDepth 100000 in
theorem repriseref7_Erase.calls (k : Nat) (A0 : Option Addr) (c0 : Nat) (l0 : List (S35)) (a1 : Int) (a2 : Int) (a3 : Int) (a4 : Int) (r : List (S35)) (w : World) (hr0 : Kd.C k35 w A0 l0.length l0) (hc0 : l0.length ≤ c0) (h : repriseref7_Erase.f k l0 a1 a2 a3 a4 = some r) :
 Calls Try.prog 31 #[.slice A0 l0.length c0,.int .i64 a1,.int .i64 a2,.int .i64 a3,.int .i64 a4] w fun e w'=>∃ v0_ : Value,e = .returned (v0_)∧Kd.R k35 35 w' w.heap.size (fun _=>True) v0_ r∧Below w.heap.size w w':=by
 have hu35:=Try.underlying35;have HR0:=zA hr0;have HC0:=zA hc0;clear hr0 hc0;have HB:=zA (zE w.heap.size w);have H : ((repriseref7_own.f l0).bind fun t611=>((repriseref7_place.f l0 a1 a2 0).bind fun t614=>(if t614 = true then (repriseref7_Erase.l0 k a1 a2 (mn (mx a4 0) a1) t611 (mn (mx a3 0) a1)) else (some t611)))) = some r:=h;clear h;replace H:=Option.bind_eq_some_iff.mp H;obtain ⟨t611,A60,H⟩:=H;replace H : ((repriseref7_place.f l0 a1 a2 0).bind fun t614=>(if t614 = true then (repriseref7_Erase.l0 k a1 a2 (mn (mx a4 0) a1) t611 (mn (mx a3 0) a1)) else (some t611))) = some r:=H;have A6:=zA A60;clear A60;replace H:=Option.bind_eq_some_iff.mp H;obtain ⟨t614,A70,H⟩:=H;replace H : (if t614 = true then (repriseref7_Erase.l0 k a1 a2 (mn (mx a4 0) a1) t611 (mn (mx a3 0) a1)) else (some t611)) = some r:=H;have A7:=zA A70;clear A70;by_cases c8 : t614 = true
 ·subst c8;have H1 : (repriseref7_Erase.l0 k a1 a2 (mn (mx a4 0) a1) t611 (mn (mx a3 0) a1)) = some r:=by rw [if_pos rfl] at H;exact H
  clear H;have H:=H1;clear H1;obtain ⟨ji9,hji9⟩ : ∃ j_ : Int,(mx a3 0) = j_:=⟨_,rfl⟩;replace H : (repriseref7_Erase.l0 k a1 a2 (mn (mx a4 0) a1) t611 (mn (ji9) a1)) = some r:=by (rw [hji9] at H;exact H)
  (try (have hji9l : 0 ≤ ji9:=by (rw [← hji9];unfold mx;(repeat' split) <;> omega)));(try (have hji9m : 0 ≤ ji9:=by omega));have hji9_ : (if a3 < 0 then 0 else a3) = ji9:=hji9;obtain ⟨ji10,hji10⟩ : ∃ j_ : Int,(mn (ji9) a1) = j_:=⟨_,rfl⟩;replace H : (repriseref7_Erase.l0 k a1 a2 (mn (mx a4 0) a1) t611 ji10) = some r:=by (rw [hji10] at H;exact H)
  have hji10_ : (if a1 < (ji9) then a1 else (ji9)) = ji10:=hji10;obtain ⟨ji11,hji11⟩ : ∃ j_ : Int,(mx a4 0) = j_:=⟨_,rfl⟩;replace H : (repriseref7_Erase.l0 k a1 a2 (mn (ji11) a1) t611 ji10) = some r:=by (rw [hji11] at H;exact H)
  (try (have hji11l : 0 ≤ ji11:=by (rw [← hji11];unfold mx;(repeat' split) <;> omega)));(try (have hji11m : 0 ≤ ji11:=by omega));have hji11_ : (if a4 < 0 then 0 else a4) = ji11:=hji11;obtain ⟨ji12,hji12⟩ : ∃ j_ : Int,(mn (ji11) a1) = j_:=⟨_,rfl⟩;replace H : (repriseref7_Erase.l0 k a1 a2 ji12 t611 ji10) = some r:=by (rw [hji12] at H;exact H)
  have hji12_ : (if a1 < (ji11) then a1 else (ji11)) = ji12:=hji12;have H':=zA H;clear H;go_enter Try.func31,Try.ntmps31
  go_wp2_with (first|((with_reducible refine zI (f:=51) rfl ?_);refine goesL_ (some 14) rfl rfl Try.func51 (by kernel_rfl) rfl #[.slice A0 l0.length c0] rfl (by (try simp only [zS,zT,zU]);rfl) ?_;(with_reducible refine (repriseref7_own.calls _ _ l0 t611 _ ?side1 ?side2 A6.out).mono ?_);(case side1=>exact HR0.out);(case side2=>exact HC0.out);rintro e w13 ⟨v612,rfl,ho0,hb⟩;refine ⟨_,rfl,?_⟩;have n0_:=zA (Kd.R_lower ho0 (below_size HB.out));have n1_:=zA (below_step HB.out hb);clear HB;have HO613:=n0_;have HB:=n1_;clear n0_ n1_;(try clear hb);(try clear ho0))|((with_reducible refine zI (f:=54) rfl ?_);refine goesL_ (some 18) rfl rfl Try.func54 (by kernel_rfl) rfl #[.slice A0 l0.length c0,.int .i64 a1,.int .i64 a2,.int .i64 0] rfl (by (try simp only [zS,zT,zU]);rfl) ?_;(with_reducible refine (repriseref7_place.calls _ _ l0 a1 a2 0 true _ ?side1 ?side2 A7.out).mono ?_);(case side1=>exact (Kd.C_below HR0.out HB.out));(case side2=>exact HC0.out);rintro e w' ⟨rfl,⟨nd,rfl⟩⟩;refine ⟨_,rfl,?_⟩));go_loopg [12] k (fun kq v12 w'=>∃ (x11_1 : List (S35)) (x12_1 : Int),v12 = .int .i64 x12_1∧Aside0 (repriseref7_Erase.l0 kq a1 a2 ji12 x11_1 x12_1 = some r)∧Aside0 (kq ≤ k)∧Aside0 (Kd.R k35 35 w' w.heap.size (fun _=>True) v612 x11_1)∧Aside0 (Below w.heap.size w w'))
  case atStart=>exact ⟨(t611),(ji10),(by rfl),H',⟨Nat.le_refl _⟩,⟨by (with_reducible repeat (apply Kd.R_drewN));exact HO613.out⟩,⟨by repeat ((with_reducible first|exact HB.out|apply pw_below_drewN))⟩⟩
  case round =>
   clear H';(try clear p2);(try clear c3);(try clear c5);(try clear c8);obtain ⟨x11_1,x12_1,rfl,HA,HK1,HO_11,HB⟩:=hrel;cases gk with
  |zero=>exact absurd HA.out (by simp [repriseref7_Erase.l0])
  |succ k1 =>
    have H:=HA.out;clear HA;simp only [repriseref7_Erase.l0] at H;by_cases c14 : x12_1 < ji12
    ·rw [if_pos c14] at H;have c14b0 : decide (x12_1 < ji12) = true:=zC c14;clear c14;replace H:=Option.bind_eq_some_iff.mp H;obtain ⟨⟨t615,t616,t617⟩,A150,H⟩:=H;replace H : (if 0 ≤ (wrap64 ((wrap64 (a2 * a1)) + x12_1)) then (if (wrap64 ((wrap64 (a2 * a1)) + x12_1)) < (x11_1.length : Int) then (repriseref7_Erase.l0 k1 a1 a2 ji12 (x11_1.set ((wrap64 ((wrap64 (a2 * a1)) + x12_1)) : Int).toNat (⟨t615,t616,t617⟩ : S35)) (wrap64 (x12_1 + 1))) else (none)) else (none)) = some r:=H;have A15:=zA A150;clear A150;obtain ⟨ji16,hji16⟩ : ∃ j_ : Int,(wrap64 ((wrap64 (a2 * a1)) + x12_1)) = j_:=⟨_,rfl⟩;replace H : (if 0 ≤ (ji16) then (if (ji16) < (x11_1.length : Int) then (repriseref7_Erase.l0 k1 a1 a2 ji12 (x11_1.set ((ji16) : Int).toNat (⟨t615,t616,t617⟩ : S35)) (wrap64 (x12_1 + 1))) else (none)) else (none)) = some r:=by (rw [hji16] at H;exact H)
     have hji16w : (IntKind.i64.wrap ((wrap64 (a2 * a1)) + x12_1)) = ji16:=(i64_w _).trans hji16;by_cases c17 : 0 ≤ (ji16)
     ·rw [if_pos c17] at H;have c17b0 : decide (0 ≤ (ji16)) = true:=zC c17;clear c17;by_cases c18 : (ji16) < (x11_1.length : Int)
      ·rw [if_pos c18] at H;have c18b0 : decide ((ji16) < (x11_1.length : Int)) = true:=zC c18;clear c18;obtain ⟨y618,hy618⟩ : ∃ y_ : List (S35),y_ = (x11_1.set ((ji16) : Int).toNat (⟨t615,t616,t617⟩ : S35)):=⟨_,rfl⟩;replace H : (repriseref7_Erase.l0 k1 a1 a2 ji12 y618 (wrap64 (x12_1 + 1))) = some r:=by (rw [hy618];with_reducible exact H)
       have Ny618:=zA hy618;clear hy618;have H':=zA H;clear H;go_wp2_with (first|((with_reducible refine zI (f:=53) rfl ?_);refine goesL_ (some 41) rfl rfl Try.func53 (by kernel_rfl) rfl #[] rfl (by (try simp only [zS,zT,zU]);done) ?_;(with_reducible refine (repriseref7_blank.calls  t615 t616 t617 _ A15.out).mono ?_);rintro e w20 ⟨rfl,hb⟩;refine ⟨_,rfl,?_⟩;have n0_:=zA (Kd.R_below HO_11.out hb);have n1_:=zA (below_step HB.out hb);clear HO_11;clear HB;have HO_11:=n0_;have HB:=n1_;clear n0_ n1_;(try clear hb);have p19 : 0 ≤ ((ji16) : Int):=od;have q19 : ((ji16) : Int) < ((x11_1.length : Int) : Int):=od;obtain ⟨go19,co19,eo19,gb19,gl19,cl19,HG19⟩:=Kd.R_form HO_11.out (by omega);(cases eo19);have GB19:=zA gb19;have GG19:=zA HG19;clear gb19 gl19 HG19;obtain ⟨ce19,hcl19,hM19,hcc19,hfr19⟩:=Kd.R_elem HO_11.out z35 ((ji16) : Int) p19 q19;obtain rfl:=k35_openM hM19;have hx19_0 : w20.cell? ⟨go19,((ji16) : Int).toNat * 3,none⟩ = some (.int .i32 ((rd_T35 x11_1 (ji16)).f0)):=hcc19 0 _ rfl;have hx19_1 : w20.cell? ⟨go19,((ji16) : Int).toNat * 3 + 1,none⟩ = some (.int .u16 ((rd_T35 x11_1 (ji16)).f1)):=hcc19 1 _ rfl;have hx19_2 : w20.cell? ⟨go19,((ji16) : Int).toNat * 3 + 2,none⟩ = some (.int .u8 ((rd_T35 x11_1 (ji16)).f2)):=hcc19 2 _ rfl;have hf19_0 : w20.frozen? ⟨go19,((ji16) : Int).toNat * 3,none⟩ = false:=hfr19 0;have hf19_1 : w20.frozen? ⟨go19,((ji16) : Int).toNat * 3 + 1,none⟩ = false:=hfr19 1;have hf19_2 : w20.frozen? ⟨go19,((ji16) : Int).toNat * 3 + 2,none⟩ = false:=hfr19 2;clear hcl19 hcc19 hfr19 hM19;replace p19:=eq_true p19;replace q19:=eq_true q19;have HX21:=zA (show Kd.R k35 35 w20 w.heap.size (fun _=>True) (.slice (some ⟨go19,0,none⟩) x11_1.length co19) x11_1 from HO_11.out);obtain ⟨ce21,hcl21,hM21,hcc21,hfr21⟩:=Kd.R_elem HX21.out z35 ((ji16) : Int) od (by have h_ : ((ji16) : Int) < ((x11_1.length : Int) : Int):=od;exact h_);obtain rfl:=k35_openM hM21;have HP21:=Kd.R_seg HX21.out ((ji16) : Int) od (by have h_ : ((ji16) : Int) < ((x11_1.length : Int) : Int):=od;exact h_) (seg:=[.int .i32 t615,.int .u16 t616,.int .u8 t617]) (j:=0) hcl21 hcc21 (show 3 ≤ 3 from by decide) (x':=(⟨t615,t616,t617⟩ : S35)) (k35_mkM _ _ _ (⟨t615,t616,t617⟩ : S35) ) (fun _ hk=>hk);have hx21_0:=hcc21 0 _ rfl;(try simp only [show (k35).sz = 3 from rfl,Nat.mul_one,Nat.add_zero] at hx21_0);have hf21_0:=hfr21 0;(try simp only [show (k35).sz = 3 from rfl,Nat.mul_one,Nat.add_zero] at hf21_0);have hx21_1:=hcc21 1 _ rfl;(try simp only [show (k35).sz = 3 from rfl,Nat.mul_one,Nat.add_zero] at hx21_1);have hf21_1:=hfr21 1;(try simp only [show (k35).sz = 3 from rfl,Nat.mul_one,Nat.add_zero] at hf21_1);have hx21_2:=hcc21 2 _ rfl;(try simp only [show (k35).sz = 3 from rfl,Nat.mul_one,Nat.add_zero] at hx21_2);have hf21_2:=hfr21 2;(try simp only [show (k35).sz = 3 from rfl,Nat.mul_one,Nat.add_zero] at hf21_2);clear hcl21 hcc21 hfr21 hM21)|((with_reducible refine zH (t:=35) (p:=42) rfl ?_);refine store_event (t:=35) (p:=42) (v:=?vo_w22) (w1:=(((w20.setCell ⟨go19,((ji16) : Int).toNat * 3,none⟩ (.int .i32 t615)).setCell ⟨go19,((ji16) : Int).toNat * 3 + 1,none⟩ (.int .u16 t616)).setCell ⟨go19,((ji16) : Int).toNat * 3 + 2,none⟩ (.int .u8 t617))) ?hg ?ho ?hn ?hr ?_;(case ho=>rfl);(case hg=>rfl);(case hn=>rfl);(case hr=>(go_simp;done));intro w22 hw;have hg : w20.grownBy w22 (some go19):=(by rw [hw];exact HP21.2);have hp_ : Kd.R k35 35 w22 w.heap.size (fun _=>True) (.slice (some ⟨go19,0,none⟩) x11_1.length co19) y618:=(by rw [hw,Ny618.out];exact HP21.1);clear HP21;have n0_:=zA (hp_);have n1_:=zA ((by rw [hw];exact below_set (below_set (below_set (HB.out) GB19.out) GB19.out) GB19.out : Below w.heap.size w w22));clear HO_11;clear HB;have HO_11:=n0_;have HB:=n1_;clear n0_ n1_;clear hg hw hp_));go_roundg k1
       case measure=>have:=HK1.out;omega
       case rel=>exact ⟨(y618),(wrap64 (x12_1 + 1)),(by rfl),H',⟨by have:=HK1.out;omega⟩,⟨HO_11.out⟩,⟨HB.out⟩⟩
      ·rw [if_neg c18] at H;exact absurd H (by simp)
     ·rw [if_neg c17] at H;exact absurd H (by simp)
    ·rw [if_neg c14] at H;have c14b0 : decide (x12_1 < ji12) = false:=zD c14;clear c14;replace H:=Option.bind_eq_some_iff.mp H;obtain ⟨t619,A230,H⟩:=H;replace H : (some t619) = some r:=H;have A23:=zA A230;clear A230;obtain rfl:=zY H;obtain ⟨Ao24,co24,eo24⟩:=Kd.R_slice HO_11.out;subst eo24;go_wp2_with (((with_reducible refine zI (f:=32) rfl ?_);refine goesL_ (some 46) rfl rfl Try.func32 (by kernel_rfl) rfl #[.slice Ao24 x11_1.length co24,.int .i64 a1,.int .i64 a2] rfl (by (try simp only [zS,zT,zU]);rfl) ?_;(with_reducible refine (repriseref7_Mend.calls k1 _ _ x11_1 a1 a2 t619 _ ?side1 ?side2 A23.out).mono ?_);(case side1=>exact (Kd.R_reads' HO_11.out).2.2);(case side2=>exact (Kd.R_reads' HO_11.out).2.1);rintro e w25 ⟨v620,rfl,ho0,hb⟩;refine ⟨_,rfl,?_⟩;have n0_:=zA (Kd.R_elder' HO_11.out (Kd.R_base ho0) hb);have n1_:=zA (Kd.R_lower (Kd.R_new' ho0 (Kd.R_lt HO_11.out)) (below_size HB.out));have n2_:=zA (below_step HB.out hb);clear HO_11;clear HB;have HO_11:=n0_;have HO621:=n1_;have HB:=n2_;clear n0_ n1_ n2_;(try clear hb);(try clear ho0)));go_ret;exact ⟨_,by rfl,by exact Kd.R_mono HO621.out (fun _ hk=>trivial),HB.out⟩
 ·replace c8:=Bool.eq_false_iff.mpr c8;subst c8;have H1 : (some t611) = some r:=by rw [if_neg (show ¬ (false = true) by decide)] at H;exact H
  clear H;have H:=H1;clear H1;obtain rfl:=zY H;go_enter Try.func31,Try.ntmps31
  go_wp2_with (first|((with_reducible refine zI (f:=51) rfl ?_);refine goesL_ (some 14) rfl rfl Try.func51 (by kernel_rfl) rfl #[.slice A0 l0.length c0] rfl (by (try simp only [zS,zT,zU]);rfl) ?_;(with_reducible refine (repriseref7_own.calls _ _ l0 t611 _ ?side1 ?side2 A6.out).mono ?_);(case side1=>exact HR0.out);(case side2=>exact HC0.out);rintro e w26 ⟨v612,rfl,ho0,hb⟩;refine ⟨_,rfl,?_⟩;have n0_:=zA (Kd.R_lower ho0 (below_size HB.out));have n1_:=zA (below_step HB.out hb);clear HB;have HO613:=n0_;have HB:=n1_;clear n0_ n1_;(try clear hb);(try clear ho0))|((with_reducible refine zI (f:=54) rfl ?_);refine goesL_ (some 18) rfl rfl Try.func54 (by kernel_rfl) rfl #[.slice A0 l0.length c0,.int .i64 a1,.int .i64 a2,.int .i64 0] rfl (by (try simp only [zS,zT,zU]);rfl) ?_;(with_reducible refine (repriseref7_place.calls _ _ l0 a1 a2 0 false _ ?side1 ?side2 A7.out).mono ?_);(case side1=>exact (Kd.C_below HR0.out HB.out));(case side2=>exact HC0.out);rintro e w' ⟨rfl,⟨nd,rfl⟩⟩;refine ⟨_,rfl,?_⟩));go_ret;exact ⟨_,by rfl,by (with_reducible repeat (apply Kd.R_drewN));exact HO613.out,by repeat ((with_reducible first|exact HB.out|apply pw_below_drewN))⟩
/-! ### repriseref7_param: function 76 -/
def repriseref7_param.f (l0 : List Int) (a1 : Int) (a2 : Int) : Option (Int):=if a1 ≥ (l0.length : Int) then (some a2) else (if 0 ≤ a1 then (if a1 < (l0.length : Int) then (if (rd l0 a1) = 0 then (some a2) else (some (rd l0 a1))) else (none)) else (none))
set_option maxHeartbeats 8000000 in
set_option maxRecDepth 100000 in
theorem repriseref7_param.calls (A0 : Option Addr) (c0 : Nat) (l0 : List Int) (a1 : Int) (a2 : Int) (r : Int) (w : World) (hr0 : Kd.C (Kd.int .i64) w A0 l0.length l0) (hc0 : l0.length ≤ c0) (h : repriseref7_param.f l0 a1 a2 = some r) :
 Calls Try.prog 76 #[.slice A0 l0.length c0,.int .i64 a1,.int .i64 a2] w fun e w'=>e = .returned (.int .i64 r)∧Drawn0 w w':=by
 have HR0:=zA hr0;have HC0:=zA hc0;clear hr0 hc0;have H : (if a1 ≥ (l0.length : Int) then (some a2) else (if 0 ≤ a1 then (if a1 < (l0.length : Int) then (if (rd l0 a1) = 0 then (some a2) else (some (rd l0 a1))) else (none)) else (none))) = some r:=h;clear h;by_cases c4 : a1 ≥ (l0.length : Int)
 ·rw [if_pos c4] at H;have c4b0 : decide ((l0.length : Int) ≤ a1) = true:=zC c4;clear c4;obtain rfl:=zY H;go_enter Try.func76,Try.ntmps76
  go_wp2;go_ret;exact ⟨by rfl,by exact Drawn0.refl _⟩
 ·rw [if_neg c4] at H;have c4b0 : decide ((l0.length : Int) ≤ a1) = false:=zD c4;clear c4;by_cases c5 : 0 ≤ a1
  ·rw [if_pos c5] at H;have c5b0 : decide (0 ≤ a1) = true:=zC c5;clear c5;by_cases c6 : a1 < (l0.length : Int)
   ·rw [if_pos c6] at H;have c6b0 : decide (a1 < (l0.length : Int)) = true:=zC c6;clear c6;by_cases c7 : (rd l0 a1) = 0
    ·rw [if_pos c7] at H;have c7b0 : ((rd l0 a1) == 0) = true:=beq_iff_eq.mpr c7;have c7b1 : ((rd l0 a1) != 0) = false:=bne_eq_false_iff_eq.mpr c7;clear c7;obtain rfl:=zY H;have p622 : 0 ≤ (a1 : Int):=od;have q622 : a1 < (l0.length : Int):=od;obtain ⟨ad622,e622,hx622_0⟩:=Kd.at_int HR0.out a1 p622 q622;cases e622;replace p622:=eq_true p622;replace q622:=eq_true q622;go_enter Try.func76,Try.ntmps76
     go_wp2;go_ret;exact ⟨by rfl,by exact Drawn0.refl _⟩
    ·rw [if_neg c7] at H;have c7b0 : ((rd l0 a1) == 0) = false:=beq_eq_false_iff_ne.mpr c7;have c7b1 : ((rd l0 a1) != 0) = true:=bne_iff_ne.mpr c7;obtain rfl:=zY H;have p622 : 0 ≤ (a1 : Int):=od;have q622 : a1 < (l0.length : Int):=od;obtain ⟨ad622,e622,hx622_0⟩:=Kd.at_int HR0.out a1 p622 q622;cases e622;replace p622:=eq_true p622;replace q622:=eq_true q622;have p623 : 0 ≤ (a1 : Int):=od;have q623 : a1 < (l0.length : Int):=od;obtain ⟨ad623,e623,hx623_0⟩:=Kd.at_int HR0.out a1 p623 q623;obtain rfl : ad622 = ad623:=(by injection e623);replace p623:=eq_true p623;replace q623:=eq_true q623;go_enter Try.func76,Try.ntmps76
     go_wp2;go_ret;exact ⟨by rfl,by exact Drawn0.refl _⟩
   ·rw [if_neg c6] at H;exact absurd H (by simp)
  ·rw [if_neg c5] at H;exact absurd H (by simp)
end Go.Proofs.Ytooageeehallbaa.QRunsCut
namespace Go.Proofs.Ytooageeehallbaa.QRunsCut
open Go.RowKit Go.Proofs.YtooageeehallbaaW.PrintWords Go.Proofs.YtooageeehallbaaW.PrintLast Go.Proofs.YtooageeehallbaaW.PrintMore
attribute [local go_sem] max2_int min2_int max_two min_two max_three min_three max_four min_four 
set_option linter.unusedVariables false
set_option linter.unusedSimpArgs false
/-! ### repriseref7_look: function 79 -/
mutual
def repriseref7_look.j0 : Nat → Int → Int → Bool → Option (Int)
|0,_,_,_=>none
|k + 1,x0,x1,x38=>if x38 = true then (some (Go.bits .or .u16 (Go.bits .andNot .u16 x0 240) (IntKind.u16.wrap ((IntKind.u16.wrap (wrap64 (x1 - 29))) * 16)))) else (if x1 = 39 then (some (Go.bits .andNot .u16 x0 240)) else (if x1 ≥ 40 then (repriseref7_look.j1 k x0 x1 (decide (x1 ≤ 47))) else (repriseref7_look.j1 k x0 x1 false)))
def repriseref7_look.j1 : Nat → Int → Int → Bool → Option (Int)
|0,_,_,_=>none
|k + 1,x0,x1,x57=>if x57 = true then (some (Go.bits .or .u16 (Go.bits .andNot .u16 x0 3840) (IntKind.u16.wrap ((IntKind.u16.wrap (wrap64 (x1 - 39))) * 256)))) else (if x1 = 49 then (some (Go.bits .andNot .u16 x0 3840)) else (some x0))
end
def repriseref7_look.f (k : Nat) (a0 : Int) (a1 : Int) : Option (Int):=if a1 = 0 then (some 0) else (if a1 = 1 then (some (Go.bits .or .u16 a0 1)) else (if a1 = 4 then (some (Go.bits .or .u16 a0 2)) else (if a1 = 7 then (some (Go.bits .or .u16 a0 4)) else (if a1 = 22 then (some (Go.bits .andNot .u16 a0 1)) else (if a1 = 24 then (some (Go.bits .andNot .u16 a0 2)) else (if a1 = 27 then (some (Go.bits .andNot .u16 a0 4)) else (if a1 ≥ 30 then (repriseref7_look.j0 k a0 a1 (decide (a1 ≤ 37))) else (repriseref7_look.j0 k a0 a1 false))))))))
theorem repriseref7_look.mono_l : ∀ k,(∀ y0 y1 y2,LeO (repriseref7_look.j0 k y0 y1 y2) (repriseref7_look.j0 (k + 1) y0 y1 y2))∧(∀ y0 y1 y2,LeO (repriseref7_look.j1 k y0 y1 y2) (repriseref7_look.j1 (k + 1) y0 y1 y2))
|0=>⟨fun _ _ _ r h=>by simp [repriseref7_look.j0] at h,fun _ _ _ r h=>by simp [repriseref7_look.j1] at h⟩
|k + 1=>by
  obtain ⟨ih0,ih1⟩:=repriseref7_look.mono_l k;refine ⟨?_,?_⟩
  ·intro y0 y1 y2;unfold repriseref7_look.j0;repeat' first
  |(with_reducible exact ih0 _ _ _)
  |(with_reducible exact ih1 _ _ _)
  |(with_reducible exact LeO.refl _)
  |(with_reducible exact LeO.none _)
  |(with_reducible refine LeO.ite ?_ ?_)
  |(with_reducible refine LeO.bind ?_ (fun _=>?_))
  |exact ih0 _ _ _
  |exact ih1 _ _ _
  |exact LeO.none _
  |refine LeO.ite ?_ ?_
  |refine LeO.bind ?_ (fun _=>?_)
  ·intro y0 y1 y2;unfold repriseref7_look.j1;repeat' first
  |(with_reducible exact ih0 _ _ _)
  |(with_reducible exact ih1 _ _ _)
  |(with_reducible exact LeO.refl _)
  |(with_reducible exact LeO.none _)
  |(with_reducible refine LeO.ite ?_ ?_)
  |(with_reducible refine LeO.bind ?_ (fun _=>?_))
  |exact ih0 _ _ _
  |exact ih1 _ _ _
  |exact LeO.none _
  |refine LeO.ite ?_ ?_
  |refine LeO.bind ?_ (fun _=>?_)
theorem repriseref7_look.mono : ∀ a0 a1 k,LeO (repriseref7_look.f k a0 a1) (repriseref7_look.f (k + 1) a0 a1):=by
 intro a0 a1 k;obtain ⟨ih0,ih1⟩:=repriseref7_look.mono_l k;unfold repriseref7_look.f;repeat' first
 |(with_reducible exact ih0 _ _ _)
 |(with_reducible exact ih1 _ _ _)
 |(with_reducible exact LeO.refl _)
 |(with_reducible exact LeO.none _)
 |(with_reducible refine LeO.ite ?_ ?_)
 |(with_reducible refine LeO.bind ?_ (fun _=>?_))
 |exact ih0 _ _ _
 |exact ih1 _ _ _
 |exact LeO.none _
 |refine LeO.ite ?_ ?_
 |refine LeO.bind ?_ (fun _=>?_)
set_option maxHeartbeats 8000000 in
set_option maxRecDepth 100000 in
theorem repriseref7_look.calls (k : Nat) (a0 : Int) (a1 : Int) (r : Int) (w : World) (h : repriseref7_look.f k a0 a1 = some r) :
 Calls Try.prog 79 #[.int .u16 a0,.int .i64 a1] w fun e w'=>e = .returned (.int .u16 r)∧Drawn0 w w':=by
 have H : (if a1 = 0 then (some 0) else (if a1 = 1 then (some (Go.bits .or .u16 a0 1)) else (if a1 = 4 then (some (Go.bits .or .u16 a0 2)) else (if a1 = 7 then (some (Go.bits .or .u16 a0 4)) else (if a1 = 22 then (some (Go.bits .andNot .u16 a0 1)) else (if a1 = 24 then (some (Go.bits .andNot .u16 a0 2)) else (if a1 = 27 then (some (Go.bits .andNot .u16 a0 4)) else (if a1 ≥ 30 then (repriseref7_look.j0 k a0 a1 (decide (a1 ≤ 37))) else (repriseref7_look.j0 k a0 a1 false))))))))) = some r:=h;clear h;by_cases c3 : a1 = 0
 ·rw [if_pos c3] at H;have c3b0 : (a1 == 0) = true:=beq_iff_eq.mpr c3;have c3b1 : (a1 != 0) = false:=bne_eq_false_iff_eq.mpr c3;clear c3;obtain rfl:=zY H;go_enter Try.func79,Try.ntmps79
  go_wp2;go_ret;exact ⟨by rfl,by exact Drawn0.refl _⟩
 ·rw [if_neg c3] at H;have c3b0 : (a1 == 0) = false:=beq_eq_false_iff_ne.mpr c3;have c3b1 : (a1 != 0) = true:=bne_iff_ne.mpr c3;by_cases c4 : a1 = 1
  ·rw [if_pos c4] at H;have c4b0 : (a1 == 1) = true:=beq_iff_eq.mpr c4;have c4b1 : (a1 != 1) = false:=bne_eq_false_iff_eq.mpr c4;clear c4;obtain rfl:=zY H;go_enter Try.func79,Try.ntmps79
   go_wp2;go_ret;exact ⟨by rfl,by exact Drawn0.refl _⟩
  ·rw [if_neg c4] at H;have c4b0 : (a1 == 1) = false:=beq_eq_false_iff_ne.mpr c4;have c4b1 : (a1 != 1) = true:=bne_iff_ne.mpr c4;by_cases c5 : a1 = 4
   ·rw [if_pos c5] at H;have c5b0 : (a1 == 4) = true:=beq_iff_eq.mpr c5;have c5b1 : (a1 != 4) = false:=bne_eq_false_iff_eq.mpr c5;clear c5;obtain rfl:=zY H;go_enter Try.func79,Try.ntmps79
    go_wp2;go_ret;exact ⟨by rfl,by exact Drawn0.refl _⟩
   ·rw [if_neg c5] at H;have c5b0 : (a1 == 4) = false:=beq_eq_false_iff_ne.mpr c5;have c5b1 : (a1 != 4) = true:=bne_iff_ne.mpr c5;by_cases c6 : a1 = 7
    ·rw [if_pos c6] at H;have c6b0 : (a1 == 7) = true:=beq_iff_eq.mpr c6;have c6b1 : (a1 != 7) = false:=bne_eq_false_iff_eq.mpr c6;clear c6;obtain rfl:=zY H;go_enter Try.func79,Try.ntmps79
     go_wp2;go_ret;exact ⟨by rfl,by exact Drawn0.refl _⟩
    ·rw [if_neg c6] at H;have c6b0 : (a1 == 7) = false:=beq_eq_false_iff_ne.mpr c6;have c6b1 : (a1 != 7) = true:=bne_iff_ne.mpr c6;by_cases c7 : a1 = 22
     ·rw [if_pos c7] at H;have c7b0 : (a1 == 22) = true:=beq_iff_eq.mpr c7;have c7b1 : (a1 != 22) = false:=bne_eq_false_iff_eq.mpr c7;clear c7;obtain rfl:=zY H;go_enter Try.func79,Try.ntmps79
      go_wp2;go_ret;exact ⟨by rfl,by exact Drawn0.refl _⟩
     ·rw [if_neg c7] at H;have c7b0 : (a1 == 22) = false:=beq_eq_false_iff_ne.mpr c7;have c7b1 : (a1 != 22) = true:=bne_iff_ne.mpr c7;by_cases c8 : a1 = 24
      ·rw [if_pos c8] at H;have c8b0 : (a1 == 24) = true:=beq_iff_eq.mpr c8;have c8b1 : (a1 != 24) = false:=bne_eq_false_iff_eq.mpr c8;clear c8;obtain rfl:=zY H;go_enter Try.func79,Try.ntmps79
       go_wp2;go_ret;exact ⟨by rfl,by exact Drawn0.refl _⟩
      ·rw [if_neg c8] at H;have c8b0 : (a1 == 24) = false:=beq_eq_false_iff_ne.mpr c8;have c8b1 : (a1 != 24) = true:=bne_iff_ne.mpr c8;by_cases c9 : a1 = 27
       ·rw [if_pos c9] at H;have c9b0 : (a1 == 27) = true:=beq_iff_eq.mpr c9;have c9b1 : (a1 != 27) = false:=bne_eq_false_iff_eq.mpr c9;clear c9;obtain rfl:=zY H;go_enter Try.func79,Try.ntmps79
        go_wp2;go_ret;exact ⟨by rfl,by exact Drawn0.refl _⟩
       ·rw [if_neg c9] at H;have c9b0 : (a1 == 27) = false:=beq_eq_false_iff_ne.mpr c9;have c9b1 : (a1 != 27) = true:=bne_iff_ne.mpr c9;have HC10:=zA H;clear H;go_enter Try.func79,Try.ntmps79
        go_upto_region 15 with (fail)
        go_cut [38] (fun v38 wc=>∃ (kq : Nat) (x38_9 : Bool),v38 = .bool x38_9∧Aside0 (repriseref7_look.j0 kq a0 a1 x38_9 = some r)∧Aside0 (kq ≤ k)∧Drawn0 w wc)
        case first =>
         have H:=HC10.out;clear HC10;by_cases c11 : a1 ≥ 30
         ·rw [if_pos c11] at H;have c11b0 : decide (30 ≤ a1) = true:=zC c11;clear c11;have H':=zA H;clear H;go_wp2;go_meet
          case rel=>exact ⟨_,(decide (a1 ≤ 37)),(by rfl),H',⟨by omega⟩,by exact Drawn0.refl _⟩
         ·rw [if_neg c11] at H;have c11b0 : decide (30 ≤ a1) = false:=zD c11;clear c11;have H':=zA H;clear H;go_wp2;go_meet
          case rel=>exact ⟨_,(false),(by rfl),H',⟨by omega⟩,by exact Drawn0.refl _⟩
        case rest =>
         clear HC10;(try clear c1);(try clear p2);(try clear c3);(try clear c3b0);(try clear c3b1);(try clear c4);(try clear c4b0);(try clear c4b1);(try clear c5);(try clear c5b0);(try clear c5b1);(try clear c6);(try clear c6b0);(try clear c6b1);(try clear c7);(try clear c7b0);(try clear c7b1);(try clear c8);(try clear c8b0);(try clear c8b1);(try clear c9);(try clear c9b0);(try clear c9b1);(try clear c11);(try clear c11b0);obtain ⟨kq,x38_9,rfl,HA,HJ9,⟨mc9,rfl⟩⟩:=hcut;cases kq with
        |zero=>exact absurd HA.out (by simp [repriseref7_look.j0])
        |succ kj9 =>
          have H:=HA.out;clear HA;simp only [repriseref7_look.j0] at H;by_cases c12 : x38_9 = true
          ·subst c12;have H1 : (some (Go.bits .or .u16 (Go.bits .andNot .u16 a0 240) (IntKind.u16.wrap ((IntKind.u16.wrap (wrap64 (a1 - 29))) * 16)))) = some r:=by rw [if_pos rfl] at H;exact H
           clear H;have H:=H1;clear H1;obtain rfl:=zY H;go_wp2;go_ret;exact ⟨by rfl,by repeat (first|exact Drawn0.refl _|apply Drawn0.step)⟩
          ·replace c12:=Bool.eq_false_iff.mpr c12;subst c12;have H1 : (if a1 = 39 then (some (Go.bits .andNot .u16 a0 240)) else (if a1 ≥ 40 then (repriseref7_look.j1 kj9 a0 a1 (decide (a1 ≤ 47))) else (repriseref7_look.j1 kj9 a0 a1 false))) = some r:=by rw [if_neg (show ¬ (false = true) by decide)] at H;exact H
           clear H;have H:=H1;clear H1;by_cases c13 : a1 = 39
           ·rw [if_pos c13] at H;have c13b0 : (a1 == 39) = true:=beq_iff_eq.mpr c13;have c13b1 : (a1 != 39) = false:=bne_eq_false_iff_eq.mpr c13;clear c13;obtain rfl:=zY H;go_wp2;go_ret;exact ⟨by rfl,by repeat (first|exact Drawn0.refl _|apply Drawn0.step)⟩
           ·rw [if_neg c13] at H;have c13b0 : (a1 == 39) = false:=beq_eq_false_iff_ne.mpr c13;have c13b1 : (a1 != 39) = true:=bne_iff_ne.mpr c13;have HC14:=zA H;clear H;go_upto_region 19 with (fail)
            go_cut [57] (fun v57 wc=>∃ (kq : Nat) (x57_13 : Bool),v57 = .bool x57_13∧Aside0 (repriseref7_look.j1 kq a0 a1 x57_13 = some r)∧Aside0 (kq ≤ kj9)∧Drawn0 w wc)
            case first =>
             have H:=HC14.out;clear HC14;by_cases c15 : a1 ≥ 40
             ·rw [if_pos c15] at H;have c15b0 : decide (40 ≤ a1) = true:=zC c15;clear c15;have H':=zA H;clear H;go_wp2;go_meet
              case rel=>exact ⟨_,(decide (a1 ≤ 47)),(by rfl),H',⟨by have:=HJ9.out;omega⟩,by repeat (first|exact Drawn0.refl _|apply Drawn0.step)⟩
             ·rw [if_neg c15] at H;have c15b0 : decide (40 ≤ a1) = false:=zD c15;clear c15;have H':=zA H;clear H;go_wp2;go_meet
              case rel=>exact ⟨_,(false),(by rfl),H',⟨by have:=HJ9.out;omega⟩,by repeat (first|exact Drawn0.refl _|apply Drawn0.step)⟩
            case rest =>
             clear HC14;(try clear c1);(try clear p2);(try clear c3);(try clear c3b0);(try clear c3b1);(try clear c4);(try clear c4b0);(try clear c4b1);(try clear c5);(try clear c5b0);(try clear c5b1);(try clear c6);(try clear c6b0);(try clear c6b1);(try clear p6);(try clear c7);(try clear c7b0);(try clear c7b1);(try clear c8);(try clear c8b0);(try clear c8b1);(try clear c9);(try clear c9b0);(try clear c9b1);(try clear c11);(try clear c11b0);(try clear c12);(try clear c13);(try clear c13b0);(try clear c13b1);(try clear c15);(try clear c15b0);(try clear p2);obtain ⟨kq,x57_13,rfl,HA,HJ13,⟨mc13,rfl⟩⟩:=hcut;cases kq with
            |zero=>exact absurd HA.out (by simp [repriseref7_look.j1])
            |succ kj13 =>
              have H:=HA.out;clear HA;simp only [repriseref7_look.j1] at H;by_cases c16 : x57_13 = true
              ·subst c16;have H1 : (some (Go.bits .or .u16 (Go.bits .andNot .u16 a0 3840) (IntKind.u16.wrap ((IntKind.u16.wrap (wrap64 (a1 - 39))) * 256)))) = some r:=by rw [if_pos rfl] at H;exact H
               clear H;have H:=H1;clear H1;obtain rfl:=zY H;go_wp2;go_ret;exact ⟨by rfl,by repeat (first|exact Drawn0.refl _|apply Drawn0.step)⟩
              ·replace c16:=Bool.eq_false_iff.mpr c16;subst c16;have H1 : (if a1 = 49 then (some (Go.bits .andNot .u16 a0 3840)) else (some a0)) = some r:=by rw [if_neg (show ¬ (false = true) by decide)] at H;exact H
               clear H;have H:=H1;clear H1;by_cases c17 : a1 = 49
               ·rw [if_pos c17] at H;have c17b0 : (a1 == 49) = true:=beq_iff_eq.mpr c17;have c17b1 : (a1 != 49) = false:=bne_eq_false_iff_eq.mpr c17;clear c17;obtain rfl:=zY H;go_wp2;go_ret;exact ⟨by rfl,by repeat (first|exact Drawn0.refl _|apply Drawn0.step)⟩
               ·rw [if_neg c17] at H;have c17b0 : (a1 == 49) = false:=beq_eq_false_iff_ne.mpr c17;have c17b1 : (a1 != 49) = true:=bne_iff_ne.mpr c17;obtain rfl:=zY H;go_wp2;go_ret;exact ⟨by rfl,by repeat (first|exact Drawn0.refl _|apply Drawn0.step)⟩
end Go.Proofs.Ytooageeehallbaa.QRunsCut
namespace Go.Proofs.Ytooageeehallbaa.QRunsCut
open Go.RowKit Go.Proofs.YtooageeehallbaaW.PrintWords Go.Proofs.YtooageeehallbaaW.PrintLast Go.Proofs.YtooageeehallbaaW.PrintMore
attribute [local go_sem] max2_int min2_int max_two min_two max_three min_three max_four min_four 
set_option linter.unusedVariables false
set_option linter.unusedSimpArgs false
/-! ### repriseref1_Begins: function 69 -/
mutual
def repriseref1_Begins.j0 : Nat → List Int → Bool → Option (Bool)
|0,_,_=>none
|k + 1,x0,x26=>if x26 = true then (some false) else (if 0 < (x0.length : Int) then (if (rd x0 0) ≥ 224 then (repriseref1_Begins.j1 k x0 3) else (repriseref1_Begins.j1 k x0 2)) else (none))
def repriseref1_Begins.j1 : Nat → List Int → Int → Option (Bool)
|0,_,_=>none
|k + 1,x0,x3=>if 0 < (x0.length : Int) then (if (rd x0 0) ≥ 240 then (repriseref1_Begins.j2 k x0 4) else (repriseref1_Begins.j2 k x0 x3)) else (none)
def repriseref1_Begins.j2 : Nat → List Int → Int → Option (Bool)
|0,_,_=>none
|k + 1,x0,x3=>if (x0.length : Int) ≥ x3 then (some false) else (repriseref1_Begins.l0 k x0 1)
def repriseref1_Begins.l0 : Nat → List Int → Int → Option (Bool)
|0,_,_=>none
|k + 1,x0,x4=>if x4 < (x0.length : Int) then (if 0 ≤ x4 then (if (Go.bits .and .u8 (rd x0 x4) 192) = 128 then (repriseref1_Begins.l0 k x0 (wrap64 (x4 + 1))) else (some false)) else (none)) else (if (x0.length : Int) = 1 then (some true) else (if 0 < (x0.length : Int) then (if (rd x0 0) = 224 then (if 1 < (x0.length : Int) then (if (rd x0 1) ≥ 160 then (some (decide ((rd x0 1) ≤ 191))) else (some false)) else (none)) else (if (rd x0 0) = 237 then (if 1 < (x0.length : Int) then (if (rd x0 1) ≥ 128 then (some (decide ((rd x0 1) ≤ 159))) else (some false)) else (none)) else (if (rd x0 0) = 240 then (if 1 < (x0.length : Int) then (if (rd x0 1) ≥ 144 then (some (decide ((rd x0 1) ≤ 191))) else (some false)) else (none)) else (if (rd x0 0) = 244 then (if 1 < (x0.length : Int) then (if (rd x0 1) ≥ 128 then (some (decide ((rd x0 1) ≤ 143))) else (some false)) else (none)) else (if 1 < (x0.length : Int) then (if (rd x0 1) ≥ 128 then (some (decide ((rd x0 1) ≤ 191))) else (some false)) else (none)))))) else (none)))
end
def repriseref1_Begins.f (k : Nat) (l0 : List Int) : Option (Bool):=if (l0.length : Int) < 1 then (repriseref1_Begins.j0 k l0 true) else (if (l0.length : Int) > 3 then (repriseref1_Begins.j0 k l0 true) else (if 0 < (l0.length : Int) then (if (rd l0 0) < 194 then (repriseref1_Begins.j0 k l0 true) else (repriseref1_Begins.j0 k l0 (decide ((rd l0 0) > 244)))) else (none)))
theorem repriseref1_Begins.mono_l : ∀ k,(∀ y0 y1,LeO (repriseref1_Begins.j0 k y0 y1) (repriseref1_Begins.j0 (k + 1) y0 y1))∧(∀ y0 y1,LeO (repriseref1_Begins.j1 k y0 y1) (repriseref1_Begins.j1 (k + 1) y0 y1))∧(∀ y0 y1,LeO (repriseref1_Begins.j2 k y0 y1) (repriseref1_Begins.j2 (k + 1) y0 y1))∧(∀ y0 y1,LeO (repriseref1_Begins.l0 k y0 y1) (repriseref1_Begins.l0 (k + 1) y0 y1))
|0=>⟨fun _ _ r h=>by simp [repriseref1_Begins.j0] at h,fun _ _ r h=>by simp [repriseref1_Begins.j1] at h,fun _ _ r h=>by simp [repriseref1_Begins.j2] at h,fun _ _ r h=>by simp [repriseref1_Begins.l0] at h⟩
|k + 1=>by
  obtain ⟨ih0,ih1,ih2,ih3⟩:=repriseref1_Begins.mono_l k;refine ⟨?_,?_,?_,?_⟩
  ·intro y0 y1;unfold repriseref1_Begins.j0;repeat' first
  |(with_reducible exact ih0 _ _)
  |(with_reducible exact ih1 _ _)
  |(with_reducible exact ih2 _ _)
  |(with_reducible exact ih3 _ _)
  |(with_reducible exact LeO.refl _)
  |(with_reducible exact LeO.none _)
  |(with_reducible refine LeO.ite ?_ ?_)
  |(with_reducible refine LeO.bind ?_ (fun _=>?_))
  |exact ih0 _ _
  |exact ih1 _ _
  |exact ih2 _ _
  |exact ih3 _ _
  |exact LeO.none _
  |refine LeO.ite ?_ ?_
  |refine LeO.bind ?_ (fun _=>?_)
  ·intro y0 y1;unfold repriseref1_Begins.j1;repeat' first
  |(with_reducible exact ih0 _ _)
  |(with_reducible exact ih1 _ _)
  |(with_reducible exact ih2 _ _)
  |(with_reducible exact ih3 _ _)
  |(with_reducible exact LeO.refl _)
  |(with_reducible exact LeO.none _)
  |(with_reducible refine LeO.ite ?_ ?_)
  |(with_reducible refine LeO.bind ?_ (fun _=>?_))
  |exact ih0 _ _
  |exact ih1 _ _
  |exact ih2 _ _
  |exact ih3 _ _
  |exact LeO.none _
  |refine LeO.ite ?_ ?_
  |refine LeO.bind ?_ (fun _=>?_)
  ·intro y0 y1;unfold repriseref1_Begins.j2;repeat' first
  |(with_reducible exact ih0 _ _)
  |(with_reducible exact ih1 _ _)
  |(with_reducible exact ih2 _ _)
  |(with_reducible exact ih3 _ _)
  |(with_reducible exact LeO.refl _)
  |(with_reducible exact LeO.none _)
  |(with_reducible refine LeO.ite ?_ ?_)
  |(with_reducible refine LeO.bind ?_ (fun _=>?_))
  |exact ih0 _ _
  |exact ih1 _ _
  |exact ih2 _ _
  |exact ih3 _ _
  |exact LeO.none _
  |refine LeO.ite ?_ ?_
  |refine LeO.bind ?_ (fun _=>?_)
  ·intro y0 y1;unfold repriseref1_Begins.l0;repeat' first
  |(with_reducible exact ih0 _ _)
  |(with_reducible exact ih1 _ _)
  |(with_reducible exact ih2 _ _)
  |(with_reducible exact ih3 _ _)
  |(with_reducible exact LeO.refl _)
  |(with_reducible exact LeO.none _)
  |(with_reducible refine LeO.ite ?_ ?_)
  |(with_reducible refine LeO.bind ?_ (fun _=>?_))
  |exact ih0 _ _
  |exact ih1 _ _
  |exact ih2 _ _
  |exact ih3 _ _
  |exact LeO.none _
  |refine LeO.ite ?_ ?_
  |refine LeO.bind ?_ (fun _=>?_)
theorem repriseref1_Begins.mono : ∀ a0 k,LeO (repriseref1_Begins.f k a0) (repriseref1_Begins.f (k + 1) a0):=by
 intro a0 k;obtain ⟨ih0,ih1,ih2,ih3⟩:=repriseref1_Begins.mono_l k;unfold repriseref1_Begins.f;repeat' first
 |(with_reducible exact ih0 _ _)
 |(with_reducible exact ih1 _ _)
 |(with_reducible exact ih2 _ _)
 |(with_reducible exact ih3 _ _)
 |(with_reducible exact LeO.refl _)
 |(with_reducible exact LeO.none _)
 |(with_reducible refine LeO.ite ?_ ?_)
 |(with_reducible refine LeO.bind ?_ (fun _=>?_))
 |exact ih0 _ _
 |exact ih1 _ _
 |exact ih2 _ _
 |exact ih3 _ _
 |exact LeO.none _
 |refine LeO.ite ?_ ?_
 |refine LeO.bind ?_ (fun _=>?_)
set_option maxHeartbeats 8000000 in
set_option maxRecDepth 100000 in
theorem repriseref1_Begins.calls (k : Nat) (A0 : Option Addr) (c0 : Nat) (l0 : List Int) (r : Bool) (w : World) (hr0 : Kd.C (Kd.int .u8) w A0 l0.length l0) (hc0 : l0.length ≤ c0) (h : repriseref1_Begins.f k l0 = some r) :
 Calls Try.prog 69 #[.slice A0 l0.length c0] w fun e w'=>e = .returned (.bool r)∧Drawn0 w w':=by
 have HR0:=zA hr0;have HC0:=zA hc0;clear hr0 hc0;have H : (if (l0.length : Int) < 1 then (repriseref1_Begins.j0 k l0 true) else (if (l0.length : Int) > 3 then (repriseref1_Begins.j0 k l0 true) else (if 0 < (l0.length : Int) then (if (rd l0 0) < 194 then (repriseref1_Begins.j0 k l0 true) else (repriseref1_Begins.j0 k l0 (decide ((rd l0 0) > 244)))) else (none)))) = some r:=h;clear h;have HC2:=zA H;clear H;go_enter Try.func69,Try.ntmps69
 go_upto_region 1 with (fail)
 go_cut [26] (fun v26 wc=>∃ (kq : Nat) (x26_1 : Bool),v26 = .bool x26_1∧Aside0 (repriseref1_Begins.j0 kq l0 x26_1 = some r)∧Aside0 (kq ≤ k)∧Drawn0 w wc)
 case first =>
  have H:=HC2.out;clear HC2;by_cases c3 : (l0.length : Int) < 1
  ·rw [if_pos c3] at H;have c3b0 : decide ((l0.length : Int) < 1) = true:=zC c3;have c3b1 : decide (l0.length < 1) = true:=zC (by omega);clear c3;have H':=zA H;clear H;go_wp2;go_meet
   case rel=>exact ⟨_,(true),(by rfl),H',⟨by omega⟩,by exact Drawn0.refl _⟩
  ·rw [if_neg c3] at H;have c3b0 : decide ((l0.length : Int) < 1) = false:=zD c3;have c3b1 : decide (l0.length < 1) = false:=zD (by omega);clear c3;by_cases c4 : (l0.length : Int) > 3
   ·rw [if_pos c4] at H;have c4b0 : decide (3 < (l0.length : Int)) = true:=zC c4;have c4b1 : decide (3 < l0.length) = true:=zC (by omega);clear c4;have H':=zA H;clear H;go_wp2;go_meet
    case rel=>exact ⟨_,(true),(by rfl),H',⟨by omega⟩,by exact Drawn0.refl _⟩
   ·rw [if_neg c4] at H;have c4b0 : decide (3 < (l0.length : Int)) = false:=zD c4;have c4b1 : decide (3 < l0.length) = false:=zD (by omega);clear c4;by_cases c5 : 0 < (l0.length : Int)
    ·rw [if_pos c5] at H;have c5b0 : decide (0 < (l0.length : Int)) = true:=zC c5;have c5b1 : decide (0 < l0.length) = true:=zC (by omega);clear c5;by_cases c6 : (rd l0 0) < 194
     ·rw [if_pos c6] at H;have c6b0 : decide ((rd l0 0) < 194) = true:=zC c6;clear c6;have H':=zA H;clear H;have p113 : 0 ≤ (0 : Int):=(by omega);have q113 : 0 < (l0.length : Int):=od;obtain ⟨ad113,e113,hx113_0⟩:=Kd.at_int HR0.out 0 p113 q113;cases e113;have qi113 : (0 < l0.length) = True:=eq_true (by omega);(try rw [show ((0 : Int)).toNat = 0 from rfl] at hx113_0);(try rw [Addr.add_zero'] at hx113_0);replace p113:=eq_true p113;replace q113:=eq_true q113;go_wp2;go_meet
      case rel=>exact ⟨_,(true),(by rfl),H',⟨by omega⟩,by exact Drawn0.refl _⟩
     ·rw [if_neg c6] at H;have c6b0 : decide ((rd l0 0) < 194) = false:=zD c6;clear c6;have H':=zA H;clear H;have p113 : 0 ≤ (0 : Int):=(by omega);have q113 : 0 < (l0.length : Int):=od;obtain ⟨ad113,e113,hx113_0⟩:=Kd.at_int HR0.out 0 p113 q113;cases e113;have qi113 : (0 < l0.length) = True:=eq_true (by omega);(try rw [show ((0 : Int)).toNat = 0 from rfl] at hx113_0);(try rw [Addr.add_zero'] at hx113_0);replace p113:=eq_true p113;replace q113:=eq_true q113;have p114 : 0 ≤ (0 : Int):=(by omega);have q114 : 0 < (l0.length : Int):=od;obtain ⟨ad114,e114,hx114_0⟩:=Kd.at_int HR0.out 0 p114 q114;obtain rfl : ad113 = ad114:=(by injection e114);have qi114 : (0 < l0.length) = True:=eq_true (by omega);(try rw [show ((0 : Int)).toNat = 0 from rfl] at hx114_0);(try rw [Addr.add_zero'] at hx114_0);replace p114:=eq_true p114;replace q114:=eq_true q114;go_wp2;go_meet
      case rel=>exact ⟨_,(decide ((rd l0 0) > 244)),(by rfl),H',⟨by omega⟩,by exact Drawn0.refl _⟩
    ·rw [if_neg c5] at H;exact absurd H (by simp)
 case rest =>
  clear HC2;(try clear p1);(try clear q1);(try clear hx1);(try clear qi1);(try clear p2);(try clear c3);(try clear c3b0);(try clear c3b1);(try clear c4);(try clear c4b0);(try clear c4b1);(try clear c5);(try clear c5b0);(try clear c5b1);(try clear c6);(try clear c6b0);(try clear hx113_0);(try clear hx114_0);(try clear p113);(try clear p114);(try clear q113);(try clear q114);obtain ⟨kq,x26_1,rfl,HA,HJ1,⟨mc1,rfl⟩⟩:=hcut;cases kq with
 |zero=>exact absurd HA.out (by simp [repriseref1_Begins.j0])
 |succ kj1 =>
   have H:=HA.out;clear HA;simp only [repriseref1_Begins.j0] at H;by_cases c7 : x26_1 = true
   ·subst c7;have H1 : (some false) = some r:=by rw [if_pos rfl] at H;exact H
    clear H;have H:=H1;clear H1;obtain rfl:=zY H;go_wp2;go_ret;exact ⟨by rfl,by repeat (first|exact Drawn0.refl _|apply Drawn0.step)⟩
   ·replace c7:=Bool.eq_false_iff.mpr c7;subst c7;have H1 : (if 0 < (l0.length : Int) then (if (rd l0 0) ≥ 224 then (repriseref1_Begins.j1 kj1 l0 3) else (repriseref1_Begins.j1 kj1 l0 2)) else (none)) = some r:=by rw [if_neg (show ¬ (false = true) by decide)] at H;exact H
    clear H;have H:=H1;clear H1;by_cases c8 : 0 < (l0.length : Int)
    ·rw [if_pos c8] at H;have c8b0 : decide (0 < (l0.length : Int)) = true:=zC c8;have c8b1 : decide (0 < l0.length) = true:=zC (by omega);clear c8;have HC9:=zA H;clear H;have p115 : 0 ≤ (0 : Int):=(by omega);have q115 : 0 < (l0.length : Int):=od;obtain ⟨ad115,e115,hx115_0⟩:=Kd.at_int HR0.out 0 p115 q115;cases e115;have qi115 : (0 < l0.length) = True:=eq_true (by omega);(try rw [show ((0 : Int)).toNat = 0 from rfl] at hx115_0);(try rw [Addr.add_zero'] at hx115_0);replace p115:=eq_true p115;replace q115:=eq_true q115;go_upto_if 30 with (fail)
     go_cut [3] (fun v3 wc=>∃ (kq : Nat) (x3_8 : Int),v3 = .int .i64 x3_8∧Aside0 (repriseref1_Begins.j1 kq l0 x3_8 = some r)∧Aside0 (kq ≤ kj1)∧Drawn0 w wc)
     case first =>
      have H:=HC9.out;clear HC9;by_cases c10 : (rd l0 0) ≥ 224
      ·rw [if_pos c10] at H;have c10b0 : decide (224 ≤ (rd l0 0)) = true:=zC c10;clear c10;(rw [c10b0])
       have H':=zA H;clear H;go_wp2;go_meet
       case rel=>exact ⟨_,(3),(by rfl),H',⟨by have:=HJ1.out;omega⟩,by repeat (first|exact Drawn0.refl _|apply Drawn0.step)⟩
      ·rw [if_neg c10] at H;have c10b0 : decide (224 ≤ (rd l0 0)) = false:=zD c10;clear c10;(rw [c10b0])
       have H':=zA H;clear H;go_wp2;go_meet
       case rel=>exact ⟨_,(2),(by rfl),H',⟨by have:=HJ1.out;omega⟩,by repeat (first|exact Drawn0.refl _|apply Drawn0.step)⟩
     case rest =>
      clear HC9;(try clear c1);(try clear p1);(try clear q1);(try clear hx1);(try clear qi1);(try clear p2);(try clear c3);(try clear c3b0);(try clear c3b1);(try clear c4);(try clear c4b0);(try clear c4b1);(try clear c5);(try clear c5b0);(try clear c5b1);(try clear c6);(try clear c6b0);(try clear c7);(try clear c8);(try clear c8b0);(try clear c8b1);(try clear c10);(try clear c10b0);(try clear hx113_0);(try clear hx114_0);(try clear hx115_0);(try clear p1);(try clear p113);(try clear p114);(try clear p115);(try clear p2);(try clear q1);(try clear q113);(try clear q114);(try clear q115);obtain ⟨kq,x3_8,rfl,HA,HJ8,⟨mc8,rfl⟩⟩:=hcut;cases kq with
     |zero=>exact absurd HA.out (by simp [repriseref1_Begins.j1])
     |succ kj8 =>
       have H:=HA.out;clear HA;simp only [repriseref1_Begins.j1] at H;by_cases c11 : 0 < (l0.length : Int)
       ·rw [if_pos c11] at H;have c11b0 : decide (0 < (l0.length : Int)) = true:=zC c11;have c11b1 : decide (0 < l0.length) = true:=zC (by omega);clear c11;have HC12:=zA H;clear H;have p116 : 0 ≤ (0 : Int):=(by omega);have q116 : 0 < (l0.length : Int):=od;obtain ⟨ad116,e116,hx116_0⟩:=Kd.at_int HR0.out 0 p116 q116;obtain rfl : ad115 = ad116:=(by injection e116);have qi116 : (0 < l0.length) = True:=eq_true (by omega);(try rw [show ((0 : Int)).toNat = 0 from rfl] at hx116_0);(try rw [Addr.add_zero'] at hx116_0);replace p116:=eq_true p116;replace q116:=eq_true q116;go_upto_if 34 with (fail)
        go_cut [3] (fun v3 wc=>∃ (kq : Nat) (x3_11 : Int),v3 = .int .i64 x3_11∧Aside0 (repriseref1_Begins.j2 kq l0 x3_11 = some r)∧Aside0 (kq ≤ kj8)∧Drawn0 w wc)
        case first =>
         have H:=HC12.out;clear HC12;by_cases c13 : (rd l0 0) ≥ 240
         ·rw [if_pos c13] at H;have c13b0 : decide (240 ≤ (rd l0 0)) = true:=zC c13;clear c13;(rw [c13b0])
          have H':=zA H;clear H;go_wp2;go_meet
          case rel=>exact ⟨_,(4),(by rfl),H',⟨by have:=HJ1.out;have:=HJ8.out;omega⟩,by repeat (first|exact Drawn0.refl _|apply Drawn0.step)⟩
         ·rw [if_neg c13] at H;have c13b0 : decide (240 ≤ (rd l0 0)) = false:=zD c13;clear c13;(rw [c13b0])
          have H':=zA H;clear H;go_wp2;go_meet
          case rel=>exact ⟨_,(x3_8),(by rfl),H',⟨by have:=HJ1.out;have:=HJ8.out;omega⟩,by repeat (first|exact Drawn0.refl _|apply Drawn0.step)⟩
        case rest =>
         clear HC12;(try clear c1);(try clear p1);(try clear q1);(try clear hx1);(try clear qi1);(try clear p2);(try clear c3);(try clear c3b0);(try clear c3b1);(try clear c4);(try clear c4b0);(try clear c4b1);(try clear c5);(try clear c5b0);(try clear c5b1);(try clear c6);(try clear c6b0);(try clear c7);(try clear c8);(try clear c8b0);(try clear c8b1);(try clear c10);(try clear c10b0);(try clear c11);(try clear c11b0);(try clear c11b1);(try clear p11);(try clear q11);(try clear hx11);(try clear qi11);(try clear c13);(try clear c13b0);(try clear hx113_0);(try clear hx114_0);(try clear hx115_0);(try clear hx116_0);(try clear p1);(try clear p113);(try clear p114);(try clear p115);(try clear p116);(try clear p2);(try clear q1);(try clear q113);(try clear q114);(try clear q115);(try clear q116);obtain ⟨kq,x3_11,rfl,HA,HJ11,⟨mc11,rfl⟩⟩:=hcut;cases kq with
        |zero=>exact absurd HA.out (by simp [repriseref1_Begins.j2])
        |succ kj11 =>
          have H:=HA.out;clear HA;simp only [repriseref1_Begins.j2] at H;by_cases c14 : (l0.length : Int) ≥ x3_11
          ·rw [if_pos c14] at H;have c14b0 : decide (x3_11 ≤ (l0.length : Int)) = true:=zC c14;clear c14;obtain rfl:=zY H;go_wp2;go_ret;exact ⟨by rfl,by repeat (first|exact Drawn0.refl _|apply Drawn0.step)⟩
          ·rw [if_neg c14] at H;have c14b0 : decide (x3_11 ≤ (l0.length : Int)) = false:=zD c14;clear c14;have H':=zA H;clear H;go_wp2;go_loopg [4] kj11 (fun kq v4 w'=>∃ (x4_4 : Int),v4 = .int .i64 x4_4∧Aside0 (repriseref1_Begins.l0 kq l0 x4_4 = some r)∧Aside0 (kq ≤ kj11)∧Drawn0 w w')
           case atStart=>exact ⟨(1),(by rfl),H',⟨Nat.le_refl _⟩,by repeat (first|exact Drawn0.refl _|apply Drawn0.step)⟩
           case round =>
            clear H';(try clear c1);(try clear p1);(try clear q1);(try clear hx1);(try clear qi1);(try clear p2);(try clear c3);(try clear c3b0);(try clear c3b1);(try clear c4);(try clear c4b0);(try clear c4b1);(try clear c5);(try clear c5b0);(try clear c5b1);(try clear c6);(try clear c6b0);(try clear c7);(try clear c8);(try clear c8b0);(try clear c8b1);(try clear c10);(try clear c10b0);(try clear c11);(try clear c11b0);(try clear c11b1);(try clear p11);(try clear q11);(try clear hx11);(try clear qi11);(try clear c13);(try clear c13b0);(try clear c14);(try clear c14b0);(try clear hx113_0);(try clear hx114_0);(try clear hx115_0);(try clear hx116_0);(try clear p1);(try clear p11);(try clear p113);(try clear p114);(try clear p115);(try clear p116);(try clear p2);(try clear q1);(try clear q11);(try clear q113);(try clear q114);(try clear q115);(try clear q116);obtain ⟨x4_4,rfl,HA,HK4,⟨m4,rfl⟩⟩:=hrel;cases gk with
           |zero=>exact absurd HA.out (by simp [repriseref1_Begins.l0])
           |succ k4 =>
             have H:=HA.out;clear HA;simp only [repriseref1_Begins.l0] at H;by_cases c15 : x4_4 < (l0.length : Int)
             ·rw [if_pos c15] at H;have c15b0 : decide (x4_4 < (l0.length : Int)) = true:=zC c15;clear c15;by_cases c16 : 0 ≤ x4_4
              ·rw [if_pos c16] at H;have c16b0 : decide (0 ≤ x4_4) = true:=zC c16;clear c16;by_cases c17 : (Go.bits .and .u8 (rd l0 x4_4) 192) = 128
               ·rw [if_pos c17] at H;have c17b0 : ((Go.bits .and .u8 (rd l0 x4_4) 192) == 128) = true:=beq_iff_eq.mpr c17;have c17b1 : ((Go.bits .and .u8 (rd l0 x4_4) 192) != 128) = false:=bne_eq_false_iff_eq.mpr c17;clear c17;have H':=zA H;clear H;have p117 : 0 ≤ (x4_4 : Int):=od;have q117 : x4_4 < (l0.length : Int):=od;obtain ⟨ad117,e117,hx117_0⟩:=Kd.at_int HR0.out x4_4 p117 q117;obtain rfl : ad115 = ad117:=(by injection e117);replace p117:=eq_true p117;replace q117:=eq_true q117;go_wp2;go_roundg k4
                case measure=>have:=HJ1.out;have:=HJ8.out;have:=HJ11.out;have:=HK4.out;omega
                case rel=>exact ⟨(wrap64 (x4_4 + 1)),(by rfl),H',⟨by have:=HJ1.out;have:=HJ8.out;have:=HJ11.out;have:=HK4.out;omega⟩,by repeat (first|exact Drawn0.refl _|apply Drawn0.step)⟩
               ·rw [if_neg c17] at H;have c17b0 : ((Go.bits .and .u8 (rd l0 x4_4) 192) == 128) = false:=beq_eq_false_iff_ne.mpr c17;have c17b1 : ((Go.bits .and .u8 (rd l0 x4_4) 192) != 128) = true:=bne_iff_ne.mpr c17;obtain rfl:=zY H;have p117 : 0 ≤ (x4_4 : Int):=od;have q117 : x4_4 < (l0.length : Int):=od;obtain ⟨ad117,e117,hx117_0⟩:=Kd.at_int HR0.out x4_4 p117 q117;obtain rfl : ad115 = ad117:=(by injection e117);replace p117:=eq_true p117;replace q117:=eq_true q117;go_wp2;go_ret;exact ⟨by rfl,by repeat (first|exact Drawn0.refl _|apply Drawn0.step)⟩
              ·rw [if_neg c16] at H;exact absurd H (by simp)
             ·rw [if_neg c15] at H;have c15b0 : decide (x4_4 < (l0.length : Int)) = false:=zD c15;clear c15;by_cases c18 : (l0.length : Int) = 1
              ·rw [if_pos c18] at H;have c18b0 : ((l0.length : Int) == 1) = true:=beq_iff_eq.mpr c18;have c18b1 : ((l0.length : Int) != 1) = false:=bne_eq_false_iff_eq.mpr c18;clear c18;obtain rfl:=zY H;go_wp2;go_ret;exact ⟨by rfl,by repeat (first|exact Drawn0.refl _|apply Drawn0.step)⟩
              ·rw [if_neg c18] at H;have c18b0 : ((l0.length : Int) == 1) = false:=beq_eq_false_iff_ne.mpr c18;have c18b1 : ((l0.length : Int) != 1) = true:=bne_iff_ne.mpr c18;by_cases c19 : 0 < (l0.length : Int)
               ·rw [if_pos c19] at H;have c19b0 : decide (0 < (l0.length : Int)) = true:=zC c19;have c19b1 : decide (0 < l0.length) = true:=zC (by omega);clear c19;by_cases c20 : (rd l0 0) = 224
                ·rw [if_pos c20] at H;have c20b0 : ((rd l0 0) == 224) = true:=beq_iff_eq.mpr c20;have c20b1 : ((rd l0 0) != 224) = false:=bne_eq_false_iff_eq.mpr c20;clear c20;by_cases c21 : 1 < (l0.length : Int)
                 ·rw [if_pos c21] at H;have c21b0 : decide (1 < (l0.length : Int)) = true:=zC c21;have c21b1 : decide (1 < l0.length) = true:=zC (by omega);clear c21;by_cases c22 : (rd l0 1) ≥ 160
                  ·rw [if_pos c22] at H;have c22b0 : decide (160 ≤ (rd l0 1)) = true:=zC c22;clear c22;obtain rfl:=zY H;have p118 : 0 ≤ (0 : Int):=(by omega);have q118 : 0 < (l0.length : Int):=od;obtain ⟨ad118,e118,hx118_0⟩:=Kd.at_int HR0.out 0 p118 q118;obtain rfl : ad115 = ad118:=(by injection e118);have qi118 : (0 < l0.length) = True:=eq_true (by omega);(try rw [show ((0 : Int)).toNat = 0 from rfl] at hx118_0);(try rw [Addr.add_zero'] at hx118_0);replace p118:=eq_true p118;replace q118:=eq_true q118;have p119 : 0 ≤ (1 : Int):=(by omega);have q119 : 1 < (l0.length : Int):=od;obtain ⟨ad119,e119,hx119_0⟩:=Kd.at_int HR0.out 1 p119 q119;obtain rfl : ad115 = ad119:=(by injection e119);(try simp only [show (1 : Int).toNat = 1 from rfl,Nat.reduceMul,Nat.reduceEqDiff,Go.Addr.add,↓reduceIte] at hx119_0);have qi119 : (1 < l0.length) = True:=eq_true (by omega);replace p119:=eq_true p119;replace q119:=eq_true q119;have p120 : 0 ≤ (1 : Int):=(by omega);have q120 : 1 < (l0.length : Int):=od;obtain ⟨ad120,e120,hx120_0⟩:=Kd.at_int HR0.out 1 p120 q120;obtain rfl : ad115 = ad120:=(by injection e120);(try simp only [show (1 : Int).toNat = 1 from rfl,Nat.reduceMul,Nat.reduceEqDiff,Go.Addr.add,↓reduceIte] at hx120_0);have qi120 : (1 < l0.length) = True:=eq_true (by omega);replace p120:=eq_true p120;replace q120:=eq_true q120;go_wp2;go_ret;exact ⟨by rfl,by repeat (first|exact Drawn0.refl _|apply Drawn0.step)⟩
                  ·rw [if_neg c22] at H;have c22b0 : decide (160 ≤ (rd l0 1)) = false:=zD c22;clear c22;obtain rfl:=zY H;have p118 : 0 ≤ (0 : Int):=(by omega);have q118 : 0 < (l0.length : Int):=od;obtain ⟨ad118,e118,hx118_0⟩:=Kd.at_int HR0.out 0 p118 q118;obtain rfl : ad115 = ad118:=(by injection e118);have qi118 : (0 < l0.length) = True:=eq_true (by omega);(try rw [show ((0 : Int)).toNat = 0 from rfl] at hx118_0);(try rw [Addr.add_zero'] at hx118_0);replace p118:=eq_true p118;replace q118:=eq_true q118;have p119 : 0 ≤ (1 : Int):=(by omega);have q119 : 1 < (l0.length : Int):=od;obtain ⟨ad119,e119,hx119_0⟩:=Kd.at_int HR0.out 1 p119 q119;obtain rfl : ad115 = ad119:=(by injection e119);(try simp only [show (1 : Int).toNat = 1 from rfl,Nat.reduceMul,Nat.reduceEqDiff,Go.Addr.add,↓reduceIte] at hx119_0);have qi119 : (1 < l0.length) = True:=eq_true (by omega);replace p119:=eq_true p119;replace q119:=eq_true q119;go_wp2;go_ret;exact ⟨by rfl,by repeat (first|exact Drawn0.refl _|apply Drawn0.step)⟩
                 ·rw [if_neg c21] at H;exact absurd H (by simp)
                ·rw [if_neg c20] at H;have c20b0 : ((rd l0 0) == 224) = false:=beq_eq_false_iff_ne.mpr c20;have c20b1 : ((rd l0 0) != 224) = true:=bne_iff_ne.mpr c20;by_cases c23 : (rd l0 0) = 237
                 ·rw [if_pos c23] at H;have c23b0 : ((rd l0 0) == 237) = true:=beq_iff_eq.mpr c23;have c23b1 : ((rd l0 0) != 237) = false:=bne_eq_false_iff_eq.mpr c23;clear c23;by_cases c24 : 1 < (l0.length : Int)
                  ·rw [if_pos c24] at H;have c24b0 : decide (1 < (l0.length : Int)) = true:=zC c24;have c24b1 : decide (1 < l0.length) = true:=zC (by omega);clear c24;by_cases c25 : (rd l0 1) ≥ 128
                   ·rw [if_pos c25] at H;have c25b0 : decide (128 ≤ (rd l0 1)) = true:=zC c25;clear c25;obtain rfl:=zY H;have p118 : 0 ≤ (0 : Int):=(by omega);have q118 : 0 < (l0.length : Int):=od;obtain ⟨ad118,e118,hx118_0⟩:=Kd.at_int HR0.out 0 p118 q118;obtain rfl : ad115 = ad118:=(by injection e118);have qi118 : (0 < l0.length) = True:=eq_true (by omega);(try rw [show ((0 : Int)).toNat = 0 from rfl] at hx118_0);(try rw [Addr.add_zero'] at hx118_0);replace p118:=eq_true p118;replace q118:=eq_true q118;have p121 : 0 ≤ (1 : Int):=(by omega);have q121 : 1 < (l0.length : Int):=od;obtain ⟨ad121,e121,hx121_0⟩:=Kd.at_int HR0.out 1 p121 q121;obtain rfl : ad115 = ad121:=(by injection e121);(try simp only [show (1 : Int).toNat = 1 from rfl,Nat.reduceMul,Nat.reduceEqDiff,Go.Addr.add,↓reduceIte] at hx121_0);have qi121 : (1 < l0.length) = True:=eq_true (by omega);replace p121:=eq_true p121;replace q121:=eq_true q121;have p122 : 0 ≤ (1 : Int):=(by omega);have q122 : 1 < (l0.length : Int):=od;obtain ⟨ad122,e122,hx122_0⟩:=Kd.at_int HR0.out 1 p122 q122;obtain rfl : ad115 = ad122:=(by injection e122);(try simp only [show (1 : Int).toNat = 1 from rfl,Nat.reduceMul,Nat.reduceEqDiff,Go.Addr.add,↓reduceIte] at hx122_0);have qi122 : (1 < l0.length) = True:=eq_true (by omega);replace p122:=eq_true p122;replace q122:=eq_true q122;go_wp2;go_ret;exact ⟨by rfl,by repeat (first|exact Drawn0.refl _|apply Drawn0.step)⟩
                   ·rw [if_neg c25] at H;have c25b0 : decide (128 ≤ (rd l0 1)) = false:=zD c25;clear c25;obtain rfl:=zY H;have p118 : 0 ≤ (0 : Int):=(by omega);have q118 : 0 < (l0.length : Int):=od;obtain ⟨ad118,e118,hx118_0⟩:=Kd.at_int HR0.out 0 p118 q118;obtain rfl : ad115 = ad118:=(by injection e118);have qi118 : (0 < l0.length) = True:=eq_true (by omega);(try rw [show ((0 : Int)).toNat = 0 from rfl] at hx118_0);(try rw [Addr.add_zero'] at hx118_0);replace p118:=eq_true p118;replace q118:=eq_true q118;have p121 : 0 ≤ (1 : Int):=(by omega);have q121 : 1 < (l0.length : Int):=od;obtain ⟨ad121,e121,hx121_0⟩:=Kd.at_int HR0.out 1 p121 q121;obtain rfl : ad115 = ad121:=(by injection e121);(try simp only [show (1 : Int).toNat = 1 from rfl,Nat.reduceMul,Nat.reduceEqDiff,Go.Addr.add,↓reduceIte] at hx121_0);have qi121 : (1 < l0.length) = True:=eq_true (by omega);replace p121:=eq_true p121;replace q121:=eq_true q121;go_wp2;go_ret;exact ⟨by rfl,by repeat (first|exact Drawn0.refl _|apply Drawn0.step)⟩
                  ·rw [if_neg c24] at H;exact absurd H (by simp)
                 ·rw [if_neg c23] at H;have c23b0 : ((rd l0 0) == 237) = false:=beq_eq_false_iff_ne.mpr c23;have c23b1 : ((rd l0 0) != 237) = true:=bne_iff_ne.mpr c23;by_cases c26 : (rd l0 0) = 240
                  ·rw [if_pos c26] at H;have c26b0 : ((rd l0 0) == 240) = true:=beq_iff_eq.mpr c26;have c26b1 : ((rd l0 0) != 240) = false:=bne_eq_false_iff_eq.mpr c26;clear c26;by_cases c27 : 1 < (l0.length : Int)
                   ·rw [if_pos c27] at H;have c27b0 : decide (1 < (l0.length : Int)) = true:=zC c27;have c27b1 : decide (1 < l0.length) = true:=zC (by omega);clear c27;by_cases c28 : (rd l0 1) ≥ 144
                    ·rw [if_pos c28] at H;have c28b0 : decide (144 ≤ (rd l0 1)) = true:=zC c28;clear c28;obtain rfl:=zY H;have p118 : 0 ≤ (0 : Int):=(by omega);have q118 : 0 < (l0.length : Int):=od;obtain ⟨ad118,e118,hx118_0⟩:=Kd.at_int HR0.out 0 p118 q118;obtain rfl : ad115 = ad118:=(by injection e118);have qi118 : (0 < l0.length) = True:=eq_true (by omega);(try rw [show ((0 : Int)).toNat = 0 from rfl] at hx118_0);(try rw [Addr.add_zero'] at hx118_0);replace p118:=eq_true p118;replace q118:=eq_true q118;have p123 : 0 ≤ (1 : Int):=(by omega);have q123 : 1 < (l0.length : Int):=od;obtain ⟨ad123,e123,hx123_0⟩:=Kd.at_int HR0.out 1 p123 q123;obtain rfl : ad115 = ad123:=(by injection e123);(try simp only [show (1 : Int).toNat = 1 from rfl,Nat.reduceMul,Nat.reduceEqDiff,Go.Addr.add,↓reduceIte] at hx123_0);have qi123 : (1 < l0.length) = True:=eq_true (by omega);replace p123:=eq_true p123;replace q123:=eq_true q123;have p124 : 0 ≤ (1 : Int):=(by omega);have q124 : 1 < (l0.length : Int):=od;obtain ⟨ad124,e124,hx124_0⟩:=Kd.at_int HR0.out 1 p124 q124;obtain rfl : ad115 = ad124:=(by injection e124);(try simp only [show (1 : Int).toNat = 1 from rfl,Nat.reduceMul,Nat.reduceEqDiff,Go.Addr.add,↓reduceIte] at hx124_0);have qi124 : (1 < l0.length) = True:=eq_true (by omega);replace p124:=eq_true p124;replace q124:=eq_true q124;go_wp2;go_ret;exact ⟨by rfl,by repeat (first|exact Drawn0.refl _|apply Drawn0.step)⟩
                    ·rw [if_neg c28] at H;have c28b0 : decide (144 ≤ (rd l0 1)) = false:=zD c28;clear c28;obtain rfl:=zY H;have p118 : 0 ≤ (0 : Int):=(by omega);have q118 : 0 < (l0.length : Int):=od;obtain ⟨ad118,e118,hx118_0⟩:=Kd.at_int HR0.out 0 p118 q118;obtain rfl : ad115 = ad118:=(by injection e118);have qi118 : (0 < l0.length) = True:=eq_true (by omega);(try rw [show ((0 : Int)).toNat = 0 from rfl] at hx118_0);(try rw [Addr.add_zero'] at hx118_0);replace p118:=eq_true p118;replace q118:=eq_true q118;have p123 : 0 ≤ (1 : Int):=(by omega);have q123 : 1 < (l0.length : Int):=od;obtain ⟨ad123,e123,hx123_0⟩:=Kd.at_int HR0.out 1 p123 q123;obtain rfl : ad115 = ad123:=(by injection e123);(try simp only [show (1 : Int).toNat = 1 from rfl,Nat.reduceMul,Nat.reduceEqDiff,Go.Addr.add,↓reduceIte] at hx123_0);have qi123 : (1 < l0.length) = True:=eq_true (by omega);replace p123:=eq_true p123;replace q123:=eq_true q123;go_wp2;go_ret;exact ⟨by rfl,by repeat (first|exact Drawn0.refl _|apply Drawn0.step)⟩
                   ·rw [if_neg c27] at H;exact absurd H (by simp)
                  ·rw [if_neg c26] at H;have c26b0 : ((rd l0 0) == 240) = false:=beq_eq_false_iff_ne.mpr c26;have c26b1 : ((rd l0 0) != 240) = true:=bne_iff_ne.mpr c26;by_cases c29 : (rd l0 0) = 244
                   ·rw [if_pos c29] at H;have c29b0 : ((rd l0 0) == 244) = true:=beq_iff_eq.mpr c29;have c29b1 : ((rd l0 0) != 244) = false:=bne_eq_false_iff_eq.mpr c29;clear c29;by_cases c30 : 1 < (l0.length : Int)
                    ·rw [if_pos c30] at H;have c30b0 : decide (1 < (l0.length : Int)) = true:=zC c30;have c30b1 : decide (1 < l0.length) = true:=zC (by omega);clear c30;by_cases c31 : (rd l0 1) ≥ 128
                     ·rw [if_pos c31] at H;have c31b0 : decide (128 ≤ (rd l0 1)) = true:=zC c31;clear c31;obtain rfl:=zY H;have p118 : 0 ≤ (0 : Int):=(by omega);have q118 : 0 < (l0.length : Int):=od;obtain ⟨ad118,e118,hx118_0⟩:=Kd.at_int HR0.out 0 p118 q118;obtain rfl : ad115 = ad118:=(by injection e118);have qi118 : (0 < l0.length) = True:=eq_true (by omega);(try rw [show ((0 : Int)).toNat = 0 from rfl] at hx118_0);(try rw [Addr.add_zero'] at hx118_0);replace p118:=eq_true p118;replace q118:=eq_true q118;have p125 : 0 ≤ (1 : Int):=(by omega);have q125 : 1 < (l0.length : Int):=od;obtain ⟨ad125,e125,hx125_0⟩:=Kd.at_int HR0.out 1 p125 q125;obtain rfl : ad115 = ad125:=(by injection e125);(try simp only [show (1 : Int).toNat = 1 from rfl,Nat.reduceMul,Nat.reduceEqDiff,Go.Addr.add,↓reduceIte] at hx125_0);have qi125 : (1 < l0.length) = True:=eq_true (by omega);replace p125:=eq_true p125;replace q125:=eq_true q125;have p126 : 0 ≤ (1 : Int):=(by omega);have q126 : 1 < (l0.length : Int):=od;obtain ⟨ad126,e126,hx126_0⟩:=Kd.at_int HR0.out 1 p126 q126;obtain rfl : ad115 = ad126:=(by injection e126);(try simp only [show (1 : Int).toNat = 1 from rfl,Nat.reduceMul,Nat.reduceEqDiff,Go.Addr.add,↓reduceIte] at hx126_0);have qi126 : (1 < l0.length) = True:=eq_true (by omega);replace p126:=eq_true p126;replace q126:=eq_true q126;go_wp2;go_ret;exact ⟨by rfl,by repeat (first|exact Drawn0.refl _|apply Drawn0.step)⟩
                     ·rw [if_neg c31] at H;have c31b0 : decide (128 ≤ (rd l0 1)) = false:=zD c31;clear c31;obtain rfl:=zY H;have p118 : 0 ≤ (0 : Int):=(by omega);have q118 : 0 < (l0.length : Int):=od;obtain ⟨ad118,e118,hx118_0⟩:=Kd.at_int HR0.out 0 p118 q118;obtain rfl : ad115 = ad118:=(by injection e118);have qi118 : (0 < l0.length) = True:=eq_true (by omega);(try rw [show ((0 : Int)).toNat = 0 from rfl] at hx118_0);(try rw [Addr.add_zero'] at hx118_0);replace p118:=eq_true p118;replace q118:=eq_true q118;have p125 : 0 ≤ (1 : Int):=(by omega);have q125 : 1 < (l0.length : Int):=od;obtain ⟨ad125,e125,hx125_0⟩:=Kd.at_int HR0.out 1 p125 q125;obtain rfl : ad115 = ad125:=(by injection e125);(try simp only [show (1 : Int).toNat = 1 from rfl,Nat.reduceMul,Nat.reduceEqDiff,Go.Addr.add,↓reduceIte] at hx125_0);have qi125 : (1 < l0.length) = True:=eq_true (by omega);replace p125:=eq_true p125;replace q125:=eq_true q125;go_wp2;go_ret;exact ⟨by rfl,by repeat (first|exact Drawn0.refl _|apply Drawn0.step)⟩
                    ·rw [if_neg c30] at H;exact absurd H (by simp)
                   ·rw [if_neg c29] at H;have c29b0 : ((rd l0 0) == 244) = false:=beq_eq_false_iff_ne.mpr c29;have c29b1 : ((rd l0 0) != 244) = true:=bne_iff_ne.mpr c29;by_cases c32 : 1 < (l0.length : Int)
                    ·rw [if_pos c32] at H;have c32b0 : decide (1 < (l0.length : Int)) = true:=zC c32;have c32b1 : decide (1 < l0.length) = true:=zC (by omega);clear c32;by_cases c33 : (rd l0 1) ≥ 128
                     ·rw [if_pos c33] at H;have c33b0 : decide (128 ≤ (rd l0 1)) = true:=zC c33;clear c33;obtain rfl:=zY H;have p118 : 0 ≤ (0 : Int):=(by omega);have q118 : 0 < (l0.length : Int):=od;obtain ⟨ad118,e118,hx118_0⟩:=Kd.at_int HR0.out 0 p118 q118;obtain rfl : ad115 = ad118:=(by injection e118);have qi118 : (0 < l0.length) = True:=eq_true (by omega);(try rw [show ((0 : Int)).toNat = 0 from rfl] at hx118_0);(try rw [Addr.add_zero'] at hx118_0);replace p118:=eq_true p118;replace q118:=eq_true q118;have p127 : 0 ≤ (1 : Int):=(by omega);have q127 : 1 < (l0.length : Int):=od;obtain ⟨ad127,e127,hx127_0⟩:=Kd.at_int HR0.out 1 p127 q127;obtain rfl : ad115 = ad127:=(by injection e127);(try simp only [show (1 : Int).toNat = 1 from rfl,Nat.reduceMul,Nat.reduceEqDiff,Go.Addr.add,↓reduceIte] at hx127_0);have qi127 : (1 < l0.length) = True:=eq_true (by omega);replace p127:=eq_true p127;replace q127:=eq_true q127;have p128 : 0 ≤ (1 : Int):=(by omega);have q128 : 1 < (l0.length : Int):=od;obtain ⟨ad128,e128,hx128_0⟩:=Kd.at_int HR0.out 1 p128 q128;obtain rfl : ad115 = ad128:=(by injection e128);(try simp only [show (1 : Int).toNat = 1 from rfl,Nat.reduceMul,Nat.reduceEqDiff,Go.Addr.add,↓reduceIte] at hx128_0);have qi128 : (1 < l0.length) = True:=eq_true (by omega);replace p128:=eq_true p128;replace q128:=eq_true q128;go_wp2;go_ret;exact ⟨by rfl,by repeat (first|exact Drawn0.refl _|apply Drawn0.step)⟩
                     ·rw [if_neg c33] at H;have c33b0 : decide (128 ≤ (rd l0 1)) = false:=zD c33;clear c33;obtain rfl:=zY H;have p118 : 0 ≤ (0 : Int):=(by omega);have q118 : 0 < (l0.length : Int):=od;obtain ⟨ad118,e118,hx118_0⟩:=Kd.at_int HR0.out 0 p118 q118;obtain rfl : ad115 = ad118:=(by injection e118);have qi118 : (0 < l0.length) = True:=eq_true (by omega);(try rw [show ((0 : Int)).toNat = 0 from rfl] at hx118_0);(try rw [Addr.add_zero'] at hx118_0);replace p118:=eq_true p118;replace q118:=eq_true q118;have p127 : 0 ≤ (1 : Int):=(by omega);have q127 : 1 < (l0.length : Int):=od;obtain ⟨ad127,e127,hx127_0⟩:=Kd.at_int HR0.out 1 p127 q127;obtain rfl : ad115 = ad127:=(by injection e127);(try simp only [show (1 : Int).toNat = 1 from rfl,Nat.reduceMul,Nat.reduceEqDiff,Go.Addr.add,↓reduceIte] at hx127_0);have qi127 : (1 < l0.length) = True:=eq_true (by omega);replace p127:=eq_true p127;replace q127:=eq_true q127;go_wp2;go_ret;exact ⟨by rfl,by repeat (first|exact Drawn0.refl _|apply Drawn0.step)⟩
                    ·rw [if_neg c32] at H;exact absurd H (by simp)
               ·rw [if_neg c19] at H;exact absurd H (by simp)
       ·rw [if_neg c11] at H;exact absurd H (by simp)
    ·rw [if_neg c8] at H;exact absurd H (by simp)
end Go.Proofs.Ytooageeehallbaa.QRunsCut
