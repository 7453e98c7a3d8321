/- Parts of the claim's proof, merged; no condition beyond what each theorem states. -/
import Derived.Test.YtooageeehallbaaG1
import Derived.Test.YtooageeehallbaaG4
import Derived.Test.YtooageeehallbaaG2
import Derived.Test.YtooageeehallbaaG3
import Derived.Deep.MidRow
namespace Go.Proofs.Ytooageeehallbaa.QRunsCut
open Go.RowKit Go.Proofs.YtooageeehallbaaW.PrintWords Go.Proofs.YtooageeehallbaaW.PrintLast Go.Proofs.YtooageeehallbaaW.PrintMore
attribute [local go_sem] max2_int min2_int max_two min_two max_three min_three max_four min_four 
set_option linter.unusedVariables false
set_option linter.unusedSimpArgs false
/-! ### repriseref1_Step: function 60 -/
mutual
def repriseref1_Step.j0 : Nat → List Int → Int → List Int → Bool → Option (List Int × List Int)
|0,_,_,_,_=>none
|k + 1,x0,x1,x6,x16=>if x16 = true then (if ([] : List Int).length + x0.length < 140737488355328 then ((some (([] : List Int) ++ x0 : List Int)).bind fun y134=>(if y134.length < 140737488355328 then ((some (y134 ++ [x1] : List Int)).bind fun y137=>((repriseref1_whole.f k y137).bind fun bt140=>(if bt140.2 = true then (some (([] : List Int),(([bt140.1] : List Int)))) else ((repriseref1_Begins.f k y137).bind fun t145=>(if t145 = true then (some (y137,([] : List Int))) else (if x6.length < 35184372088832 then (repriseref1_Step.j1 k x1 (x6 ++ [65533])) else (none))))))) else (none))) else (none)) else (repriseref1_Step.j1 k x1 x6)
def repriseref1_Step.j1 : Nat → Int → List Int → Option (List Int × List Int)
|0,_,_=>none
|k + 1,x1,x6=>if x1 < 128 then (if x6.length < 35184372088832 then (some (([] : List Int),(x6 ++ [wrap32 (x1)]))) else (none)) else ((repriseref1_Begins.f k (([x1] : List Int))).bind fun t155=>(if t155 = true then (some ((([x1] : List Int)),x6)) else (if x6.length < 35184372088832 then (some (([] : List Int),(x6 ++ [65533]))) else (none))))
end
def repriseref1_Step.f (k : Nat) (l0 : List Int) (a1 : Int) : Option (List Int × List Int):=if (l0.length : Int) > 0 then ((repriseref1_Begins.f k l0).bind fun t133=>(repriseref1_Step.j0 k l0 a1 ([] : List Int) t133)) else (repriseref1_Step.j0 k l0 a1 ([] : List Int) false)
theorem repriseref1_Step.mono_l : ∀ k,(∀ y0 y1 y2 y3,LeO (repriseref1_Step.j0 k y0 y1 y2 y3) (repriseref1_Step.j0 (k + 1) y0 y1 y2 y3))∧(∀ y0 y1,LeO (repriseref1_Step.j1 k y0 y1) (repriseref1_Step.j1 (k + 1) y0 y1))
|0=>⟨fun _ _ _ _ r h=>by simp [repriseref1_Step.j0] at h,fun _ _ r h=>by simp [repriseref1_Step.j1] at h⟩
|k + 1=>by
  obtain ⟨ih0,ih1⟩:=repriseref1_Step.mono_l k;refine ⟨?_,?_⟩
  ·intro y0 y1 y2 y3;unfold repriseref1_Step.j0;repeat' first
  |(with_reducible exact ih0 _ _ _ _)
  |(with_reducible exact ih1 _ _)
  |(with_reducible exact repriseref1_Begins.mono _ _)
  |(with_reducible exact repriseref1_whole.mono _ _)
  |(with_reducible exact LeO.refl _)
  |(with_reducible exact LeO.none _)
  |(with_reducible refine LeO.ite ?_ ?_)
  |(with_reducible refine LeO.bind ?_ (fun _=>?_))
  |exact ih0 _ _ _ _
  |exact ih1 _ _
  |exact repriseref1_Begins.mono _ _
  |exact repriseref1_whole.mono _ _
  |exact LeO.none _
  |refine LeO.ite ?_ ?_
  |refine LeO.bind ?_ (fun _=>?_)
  ·intro y0 y1;unfold repriseref1_Step.j1;repeat' first
  |(with_reducible exact ih0 _ _ _ _)
  |(with_reducible exact ih1 _ _)
  |(with_reducible exact repriseref1_Begins.mono _ _)
  |(with_reducible exact repriseref1_whole.mono _ _)
  |(with_reducible exact LeO.refl _)
  |(with_reducible exact LeO.none _)
  |(with_reducible refine LeO.ite ?_ ?_)
  |(with_reducible refine LeO.bind ?_ (fun _=>?_))
  |exact ih0 _ _ _ _
  |exact ih1 _ _
  |exact repriseref1_Begins.mono _ _
  |exact repriseref1_whole.mono _ _
  |exact LeO.none _
  |refine LeO.ite ?_ ?_
  |refine LeO.bind ?_ (fun _=>?_)
theorem repriseref1_Step.mono : ∀ a0 a1 k,LeO (repriseref1_Step.f k a0 a1) (repriseref1_Step.f (k + 1) a0 a1):=by
 intro a0 a1 k;obtain ⟨ih0,ih1⟩:=repriseref1_Step.mono_l k;unfold repriseref1_Step.f;repeat' first
 |(with_reducible exact ih0 _ _ _ _)
 |(with_reducible exact ih1 _ _)
 |(with_reducible exact repriseref1_Begins.mono _ _)
 |(with_reducible exact repriseref1_whole.mono _ _)
 |(with_reducible exact LeO.refl _)
 |(with_reducible exact LeO.none _)
 |(with_reducible refine LeO.ite ?_ ?_)
 |(with_reducible refine LeO.bind ?_ (fun _=>?_))
 |exact ih0 _ _ _ _
 |exact ih1 _ _
 |exact repriseref1_Begins.mono _ _
 |exact repriseref1_whole.mono _ _
 |exact LeO.none _
 |refine LeO.ite ?_ ?_
 |refine LeO.bind ?_ (fun _=>?_)
set_option maxHeartbeats 8000000 in
set_option maxRecDepth 100000 in
theorem repriseref1_Step.calls (k : Nat) (A0 : Option Addr) (c0 : Nat) (l0 : List Int) (a1 : Int) (r1 : List Int) (r2 : List Int) (w : World) (hr0 : Kd.C (Kd.int .u8) w A0 l0.length l0) (hc0 : l0.length ≤ c0) (h : repriseref1_Step.f k l0 a1 = some (r1,r2)) :
 Calls Try.prog 60 #[.slice A0 l0.length c0,.int .u8 a1] w fun e w'=>∃ v0_ v1_ : Value,e = .returned (.tuple #[v0_,v1_])∧Kd.R (Kd.int .u8) 5 w' w.heap.size (fun _=>True) v0_ r1∧Kd.R (Kd.int .i32) 21 w' w.heap.size (fun _=>True) v1_ r2∧Below w.heap.size w w':=by
 have HR0:=zA hr0;have HC0:=zA hc0;clear hr0 hc0;have HB:=zA (zE w.heap.size w);have H : (if (l0.length : Int) > 0 then ((repriseref1_Begins.f k l0).bind fun t133=>(repriseref1_Step.j0 k l0 a1 ([] : List Int) t133)) else (repriseref1_Step.j0 k l0 a1 ([] : List Int) false)) = some (r1,r2):=h;clear h;have HC3:=zA H;clear H;go_enter Try.func60,Try.ntmps60
 go_upto_region 2 with (fail)
 go_cut [16] (fun v16 wc=>∃ (kq : Nat) (x16_2 : Bool),v16 = .bool x16_2∧Aside0 (repriseref1_Step.j0 kq l0 a1 ([] : List Int) x16_2 = some (r1,r2))∧Aside0 (kq ≤ k)∧Aside0 (Kd.R (Kd.int .i32) 21 wc w.heap.size (fun _=>True) (.slice none 0 0) ([] : List Int))∧Aside0 (Below w.heap.size w wc))
 case first =>
  have H:=HC3.out;clear HC3;by_cases c4 : (l0.length : Int) > 0
  ·rw [if_pos c4] at H;have c4b0 : decide (0 < (l0.length : Int)) = true:=zC c4;have c4b1 : decide (0 < l0.length) = true:=zC (by omega);clear c4;replace H:=Option.bind_eq_some_iff.mp H;obtain ⟨t133,A50,H⟩:=H;replace H : (repriseref1_Step.j0 k l0 a1 ([] : List Int) t133) = some (r1,r2):=H;have A5:=zA A50;clear A50;have H':=zA H;clear H;go_wp2_with ((go_at_call 69;(with_reducible refine (repriseref1_Begins.calls k _ _ l0 t133 _ ?side1 ?side2 A5.out).mono ?_);(case side1=>exact (Kd.C_below HR0.out HB.out));(case side2=>exact HC0.out);rintro e w' ⟨rfl,⟨nd,rfl⟩⟩));go_meet
   case rel=>exact ⟨_,(t133),(by rfl),H',⟨by omega⟩,⟨by exact Kd.R_nil _ _ _ _ _⟩,⟨by repeat ((with_reducible first|exact HB.out|apply pw_below_drewN))⟩⟩
  ·rw [if_neg c4] at H;have c4b0 : decide (0 < (l0.length : Int)) = false:=zD c4;have c4b1 : decide (0 < l0.length) = false:=zD (by omega);clear c4;have H':=zA H;clear H;go_wp2;go_meet
   case rel=>exact ⟨_,(false),(by rfl),H',⟨by omega⟩,⟨by exact Kd.R_nil _ _ _ _ _⟩,⟨HB.out⟩⟩
 case rest =>
  clear HC3;(try clear p2);(try clear c4);(try clear c4b0);(try clear c4b1);obtain ⟨kq,x16_2,rfl,HA,HJ2,HO_6,HB⟩:=hcut;cases kq with
 |zero=>exact absurd HA.out (by simp [repriseref1_Step.j0])
 |succ kj2 =>
   have H:=HA.out;clear HA;simp only [repriseref1_Step.j0] at H;have HC6:=zA H;clear H;go_upto_if 16 with (fail)
   go_cut [6] (fun v6 wc=>∃ (kq : Nat) (x6_5 : List Int),Aside0 (repriseref1_Step.j1 kq a1 x6_5 = some (r1,r2))∧Aside0 (kq ≤ kj2)∧Aside0 (Kd.R (Kd.int .i32) 21 wc w.heap.size (fun _=>True) v6 x6_5)∧Aside0 (Below w.heap.size w wc))
   case first =>
    have H:=HC6.out;clear HC6;by_cases c7 : x16_2 = true
    ·subst c7;have H1 : (if ([] : List Int).length + l0.length < 140737488355328 then ((some (([] : List Int) ++ l0 : List Int)).bind fun y134=>(if y134.length < 140737488355328 then ((some (y134 ++ [a1] : List Int)).bind fun y137=>((repriseref1_whole.f kj2 y137).bind fun bt140=>(if bt140.2 = true then (some (([] : List Int),(([bt140.1] : List Int)))) else ((repriseref1_Begins.f kj2 y137).bind fun t145=>(if t145 = true then (some (y137,([] : List Int))) else (if ([] : List Int).length < 35184372088832 then (repriseref1_Step.j1 kj2 a1 (([] : List Int) ++ [65533])) else (none))))))) else (none))) else (none)) = some (r1,r2):=by rw [if_pos rfl] at H;exact H
     clear H;have H:=H1;clear H1;by_cases c8 : ([] : List Int).length + l0.length < 140737488355328
     ·rw [if_pos c8] at H;have LMc8:=zA c8;clear c8;obtain ⟨y134,hy134⟩ : ∃ y_ : List Int,y_ = (([] : List Int) ++ l0):=⟨_,rfl⟩;replace H : (if y134.length < 140737488355328 then ((some (y134 ++ [a1] : List Int)).bind fun y137=>((repriseref1_whole.f kj2 y137).bind fun bt140=>(if bt140.2 = true then (some (([] : List Int),(([bt140.1] : List Int)))) else ((repriseref1_Begins.f kj2 y137).bind fun t145=>(if t145 = true then (some (y137,([] : List Int))) else (if ([] : List Int).length < 35184372088832 then (repriseref1_Step.j1 kj2 a1 (([] : List Int) ++ [65533])) else (none))))))) else (none)) = some (r1,r2):=by (have H2_:=(zX _ _).symm.trans H;rw [hy134];with_reducible exact H2_)
      have Ny134:=zA hy134;clear hy134;by_cases c9 : y134.length < 140737488355328
      ·rw [if_pos c9] at H;have LMc9:=zA c9;clear c9;obtain ⟨y137,hy137⟩ : ∃ y_ : List Int,y_ = (y134 ++ [a1]):=⟨_,rfl⟩;replace H : ((repriseref1_whole.f kj2 y137).bind fun bt140=>(if bt140.2 = true then (some (([] : List Int),(([bt140.1] : List Int)))) else ((repriseref1_Begins.f kj2 y137).bind fun t145=>(if t145 = true then (some (y137,([] : List Int))) else (if ([] : List Int).length < 35184372088832 then (repriseref1_Step.j1 kj2 a1 (([] : List Int) ++ [65533])) else (none)))))) = some (r1,r2):=by (have H2_:=(zX _ _).symm.trans H;rw [hy137];with_reducible exact H2_)
       have Ny137:=zA hy137;clear hy137;replace H:=Option.bind_eq_some_iff.mp H;obtain ⟨⟨t140,t141⟩,A100,H⟩:=H;replace H : (if t141 = true then (some (([] : List Int),(([t140] : List Int)))) else ((repriseref1_Begins.f kj2 y137).bind fun t145=>(if t145 = true then (some (y137,([] : List Int))) else (if ([] : List Int).length < 35184372088832 then (repriseref1_Step.j1 kj2 a1 (([] : List Int) ++ [65533])) else (none))))) = some (r1,r2):=H;have A10:=zA A100;clear A100;by_cases c11 : t141 = true
       ·subst c11;have H1 : (some (([] : List Int),(([t140] : List Int)))) = some (r1,r2):=by rw [if_pos rfl] at H;exact H
        clear H;have H:=H1;clear H1;obtain ⟨y142,hy142⟩ : ∃ y_ : List Int,y_ = (([t140] : List Int)):=⟨_,rfl⟩;replace H : (some (([] : List Int),y142)) = some (r1,r2):=by (rw [hy142];with_reducible exact H)
        have Ny142:=zA hy142;clear hy142;simp only [Option.some.injEq,Prod.mk.injEq] at H;obtain ⟨rfl,rfl⟩:=H;go_wp2_with (first|((with_reducible refine gate_builtin (b:=.append) (xs:=#[.const (.slice none 0 0),.tmp 17]) rfl ?_);at_builtin;refine Kd.R_append_rows (Kd.int .u8) (w0:=w) w.heap.size rfl (.const (.slice none 0 0)) (.tmp 17) 22 5 (.int .u8 0) 1 rfl Try.underlying22 info5 rfl (by decide) (by omega) (.slice none 0 0) ([] : List Int) l0 _ _ _ (fun _=>True) (fun _=>False) rfl rfl ?aO ?aR (fun _ _ h=>h) (fun _ h=>h.elim) ?aF ?aB ?aS ?aL ?_;(case aR=>exact (Kd.C_below HR0.out HB.out));(case aB=>exact HB.out);(case aF=>exact (fun _ _=>trivial));(case aO=>exact ((Kd.R_nil _ _ _ _ (fun _=>True))));(case aS=>exact (below_size HB.out));(case aL=>have:=LMc8.out;omega);intro v135 w12 ho hb hg hat;rw [← Ny134.out] at ho;have n0_:=zA (Kd.R_grown HO_6.out hg (fun _ _=>by simp [Value.ownBlock]));have n1_:=zA (hb);have n2_:=zA (ho);clear HO_6;clear HB;have HO_6:=n0_;have HB:=n1_;have HO136:=n2_;clear n0_ n1_ n2_;clear ho hb hg hat)|((with_reducible refine gate_builtin (b:=.append) (xs:=#[.tmp 18,.tmp 20]) rfl ?_);at_builtin;refine Kd.R_append (Kd.int .u8) (w0:=w) w.heap.size rfl (.tmp 18) (.tmp 20) 22 5 (.int .u8 0) 1 rfl Try.underlying22 info5 rfl (by decide) (by omega) v135 y134 a1 [.int .u8 a1] (fun _=>True) (fun _=>False) rfl rfl ?aP (fun _ hk=>hk.elim) ?aF ?aO ?aB ?aS ?aL ?_;(case aP=>exact rfl);(case aB=>exact HB.out);(case aF=>exact (fun _ _=>trivial));(case aO=>exact HO136.out);(case aS=>exact (below_size HB.out));(case aL=>have:=LMc9.out;omega);intro v138 w13 ho hb hg hat;rw [← Ny137.out] at ho;have n0_:=zA (Kd.R_over' HO_6.out (Kd.R_typed HO136.out) (by decide) hg);have n1_:=zA (hb);have n2_:=zA (ho);clear HO_6;clear HB;clear HO136;have HO_6:=n0_;have HB:=n1_;have HO139:=n2_;clear n0_ n1_ n2_;clear ho hb hg hat;obtain ⟨Ao14,co14,eo14⟩:=Kd.R_slice HO139.out;subst eo14)|((with_reducible refine zI (f:=70) rfl ?_);refine goesL_ (some 24) rfl rfl Try.func70 (by kernel_rfl) rfl #[.slice Ao14 y137.length co14] rfl (by (try simp only [zS,zT,zU]);rfl) ?_;(with_reducible refine (repriseref1_whole.calls kj2 _ _ y137 t140 true _ ?side1 ?side2 A10.out).mono ?_);(case side1=>exact (Kd.R_reads' HO139.out).2.2);(case side2=>exact (Kd.R_reads' HO139.out).2.1);rintro e w' ⟨rfl,⟨nd,rfl⟩⟩;refine ⟨_,rfl,?_⟩)|((with_reducible refine zG (N:=29) rfl ?_);refine Kd.R_lit (Kd.int .i32) _ 21 ?hg (N:=29) ?hd (xs:=([t140] : List Int)) (inner:=[.int .i32 t140]) (ok:=fun _=>True) (okp:=fun _=>True) ?hr ?hp (fun _ hk=>hk) trivial (zE _ _) (Nat.le_refl _) (by simp) ?_;(case hd=>rfl);(case hg=>rfl);(case hr=>(go_simp;done));(case hp=>exact (Reps.one (show Kd.M (Kd.int .i32) _ _ _ t140 [.int .i32 t140] from rfl) (Reps.none _ _)));intro v143 w15 ho16 hb hg_ hnew_;clear hg_ hnew_;(rw [← Ny142.out] at ho16);have n0_:=zA (Kd.R_elder' (by (with_reducible repeat (apply Kd.R_drewN));exact HO_6.out) (Kd.R_base ho16) hb);have n1_:=zA (Kd.R_below (by (with_reducible repeat (apply Kd.R_drewN));exact HO139.out) hb);have n2_:=zA (Kd.R_lower (Kd.R_new' ho16 (Kd.R_lt (by (with_reducible repeat (apply Kd.R_drewN));exact HO_6.out))) (below_size (by repeat ((with_reducible first|exact HB.out|apply pw_below_drewN)))));have n3_:=zA (below_step (by repeat ((with_reducible first|exact HB.out|apply pw_below_drewN))) hb);clear HO_6;clear HO139;clear HB;have HO_6:=n0_;have HO139:=n1_;have HO144:=n2_;have HB:=n3_;clear n0_ n1_ n2_ n3_;clear hb ho16));go_ret2;exact ⟨_,_,by rfl,by exact Kd.R_nil _ _ _ _ _,by exact Kd.R_mono HO144.out (fun _ hk=>trivial),HB.out⟩
       ·replace c11:=Bool.eq_false_iff.mpr c11;subst c11;have H1 : ((repriseref1_Begins.f kj2 y137).bind fun t145=>(if t145 = true then (some (y137,([] : List Int))) else (if ([] : List Int).length < 35184372088832 then (repriseref1_Step.j1 kj2 a1 (([] : List Int) ++ [65533])) else (none)))) = some (r1,r2):=by rw [if_neg (show ¬ (false = true) by decide)] at H;exact H
        clear H;have H:=H1;clear H1;replace H:=Option.bind_eq_some_iff.mp H;obtain ⟨t145,A170,H⟩:=H;replace H : (if t145 = true then (some (y137,([] : List Int))) else (if ([] : List Int).length < 35184372088832 then (repriseref1_Step.j1 kj2 a1 (([] : List Int) ++ [65533])) else (none))) = some (r1,r2):=H;have A17:=zA A170;clear A170;by_cases c18 : t145 = true
        ·subst c18;have H1 : (some (y137,([] : List Int))) = some (r1,r2):=by rw [if_pos rfl] at H;exact H
         clear H;have H:=H1;clear H1;simp only [Option.some.injEq,Prod.mk.injEq] at H;obtain ⟨rfl,rfl⟩:=H;go_wp2_with (first|((with_reducible refine gate_builtin (b:=.append) (xs:=#[.const (.slice none 0 0),.tmp 17]) rfl ?_);at_builtin;refine Kd.R_append_rows (Kd.int .u8) (w0:=w) w.heap.size rfl (.const (.slice none 0 0)) (.tmp 17) 22 5 (.int .u8 0) 1 rfl Try.underlying22 info5 rfl (by decide) (by omega) (.slice none 0 0) ([] : List Int) l0 _ _ _ (fun _=>True) (fun _=>False) rfl rfl ?aO ?aR (fun _ _ h=>h) (fun _ h=>h.elim) ?aF ?aB ?aS ?aL ?_;(case aR=>exact (Kd.C_below HR0.out HB.out));(case aB=>exact HB.out);(case aF=>exact (fun _ _=>trivial));(case aO=>exact ((Kd.R_nil _ _ _ _ (fun _=>True))));(case aS=>exact (below_size HB.out));(case aL=>have:=LMc8.out;omega);intro v135 w19 ho hb hg hat;rw [← Ny134.out] at ho;have n0_:=zA (Kd.R_grown HO_6.out hg (fun _ _=>by simp [Value.ownBlock]));have n1_:=zA (hb);have n2_:=zA (ho);clear HO_6;clear HB;have HO_6:=n0_;have HB:=n1_;have HO136:=n2_;clear n0_ n1_ n2_;clear ho hb hg hat)|((with_reducible refine gate_builtin (b:=.append) (xs:=#[.tmp 18,.tmp 20]) rfl ?_);at_builtin;refine Kd.R_append (Kd.int .u8) (w0:=w) w.heap.size rfl (.tmp 18) (.tmp 20) 22 5 (.int .u8 0) 1 rfl Try.underlying22 info5 rfl (by decide) (by omega) v135 y134 a1 [.int .u8 a1] (fun _=>True) (fun _=>False) rfl rfl ?aP (fun _ hk=>hk.elim) ?aF ?aO ?aB ?aS ?aL ?_;(case aP=>exact rfl);(case aB=>exact HB.out);(case aF=>exact (fun _ _=>trivial));(case aO=>exact HO136.out);(case aS=>exact (below_size HB.out));(case aL=>have:=LMc9.out;omega);intro v138 w20 ho hb hg hat;rw [← Ny137.out] at ho;have n0_:=zA (Kd.R_over' HO_6.out (Kd.R_typed HO136.out) (by decide) hg);have n1_:=zA (hb);have n2_:=zA (ho);clear HO_6;clear HB;clear HO136;have HO_6:=n0_;have HB:=n1_;have HO139:=n2_;clear n0_ n1_ n2_;clear ho hb hg hat;obtain ⟨Ao21,co21,eo21⟩:=Kd.R_slice HO139.out;subst eo21)|((with_reducible refine zI (f:=70) rfl ?_);refine goesL_ (some 24) rfl rfl Try.func70 (by kernel_rfl) rfl #[.slice Ao21 y137.length co21] rfl (by (try simp only [zS,zT,zU]);rfl) ?_;(with_reducible refine (repriseref1_whole.calls kj2 _ _ y137 t140 false _ ?side1 ?side2 A10.out).mono ?_);(case side1=>exact (Kd.R_reads' HO139.out).2.2);(case side2=>exact (Kd.R_reads' HO139.out).2.1);rintro e w' ⟨rfl,⟨nd,rfl⟩⟩;refine ⟨_,rfl,?_⟩)|((with_reducible refine zI (f:=69) rfl ?_);refine goesL_ (some 31) rfl rfl Try.func69 (by kernel_rfl) rfl #[.slice Ao21 y137.length co21] rfl (by (try simp only [zS,zT,zU]);rfl) ?_;(with_reducible refine (repriseref1_Begins.calls kj2 _ _ y137 true _ ?side1 ?side2 A17.out).mono ?_);(case side1=>exact (Kd.R_reads' HO139.out).2.2);(case side2=>exact (Kd.R_reads' HO139.out).2.1);rintro e w' ⟨rfl,⟨nd,rfl⟩⟩;refine ⟨_,rfl,?_⟩));go_ret2;exact ⟨_,_,by rfl,by (with_reducible repeat (apply Kd.R_drewN));exact HO139.out,by exact Kd.R_nil _ _ _ _ _,by repeat ((with_reducible first|exact HB.out|apply pw_below_drewN))⟩
        ·replace c18:=Bool.eq_false_iff.mpr c18;subst c18;have H1 : (if ([] : List Int).length < 35184372088832 then (repriseref1_Step.j1 kj2 a1 (([] : List Int) ++ [65533])) else (none)) = some (r1,r2):=by rw [if_neg (show ¬ (false = true) by decide)] at H;exact H
         clear H;have H:=H1;clear H1;by_cases c22 : ([] : List Int).length < 35184372088832
         ·rw [if_pos c22] at H;have LMc22:=zA c22;clear c22;obtain ⟨y146,hy146⟩ : ∃ y_ : List Int,y_ = (([] : List Int) ++ [65533]):=⟨_,rfl⟩;replace H : (repriseref1_Step.j1 kj2 a1 y146) = some (r1,r2):=by (rw [hy146];with_reducible exact H)
          have Ny146:=zA hy146;clear hy146;have H':=zA H;clear H;go_wp2_with (first|((with_reducible refine gate_builtin (b:=.append) (xs:=#[.const (.slice none 0 0),.tmp 17]) rfl ?_);at_builtin;refine Kd.R_append_rows (Kd.int .u8) (w0:=w) w.heap.size rfl (.const (.slice none 0 0)) (.tmp 17) 22 5 (.int .u8 0) 1 rfl Try.underlying22 info5 rfl (by decide) (by omega) (.slice none 0 0) ([] : List Int) l0 _ _ _ (fun _=>True) (fun _=>False) rfl rfl ?aO ?aR (fun _ _ h=>h) (fun _ h=>h.elim) ?aF ?aB ?aS ?aL ?_;(case aR=>exact (Kd.C_below HR0.out HB.out));(case aB=>exact HB.out);(case aF=>exact (fun _ _=>trivial));(case aO=>exact ((Kd.R_nil _ _ _ _ (fun _=>True))));(case aS=>exact (below_size HB.out));(case aL=>have:=LMc8.out;omega);intro v135 w23 ho hb hg hat;rw [← Ny134.out] at ho;have n0_:=zA (Kd.R_grown HO_6.out hg (fun _ _=>by simp [Value.ownBlock]));have n1_:=zA (hb);have n2_:=zA (ho);clear HO_6;clear HB;have HO_6:=n0_;have HB:=n1_;have HO136:=n2_;clear n0_ n1_ n2_;clear ho hb hg hat)|((with_reducible refine gate_builtin (b:=.append) (xs:=#[.tmp 18,.tmp 20]) rfl ?_);at_builtin;refine Kd.R_append (Kd.int .u8) (w0:=w) w.heap.size rfl (.tmp 18) (.tmp 20) 22 5 (.int .u8 0) 1 rfl Try.underlying22 info5 rfl (by decide) (by omega) v135 y134 a1 [.int .u8 a1] (fun _=>True) (fun _=>False) rfl rfl ?aP (fun _ hk=>hk.elim) ?aF ?aO ?aB ?aS ?aL ?_;(case aP=>exact rfl);(case aB=>exact HB.out);(case aF=>exact (fun _ _=>trivial));(case aO=>exact HO136.out);(case aS=>exact (below_size HB.out));(case aL=>have:=LMc9.out;omega);intro v138 w24 ho hb hg hat;rw [← Ny137.out] at ho;have n0_:=zA (Kd.R_over' HO_6.out (Kd.R_typed HO136.out) (by decide) hg);have n1_:=zA (hb);have n2_:=zA (ho);clear HO_6;clear HB;clear HO136;have HO_6:=n0_;have HB:=n1_;have HO139:=n2_;clear n0_ n1_ n2_;clear ho hb hg hat;obtain ⟨Ao25,co25,eo25⟩:=Kd.R_slice HO139.out;subst eo25)|((with_reducible refine zI (f:=70) rfl ?_);refine goesL_ (some 24) rfl rfl Try.func70 (by kernel_rfl) rfl #[.slice Ao25 y137.length co25] rfl (by (try simp only [zS,zT,zU]);rfl) ?_;(with_reducible refine (repriseref1_whole.calls kj2 _ _ y137 t140 false _ ?side1 ?side2 A10.out).mono ?_);(case side1=>exact (Kd.R_reads' HO139.out).2.2);(case side2=>exact (Kd.R_reads' HO139.out).2.1);rintro e w' ⟨rfl,⟨nd,rfl⟩⟩;refine ⟨_,rfl,?_⟩)|((with_reducible refine zI (f:=69) rfl ?_);refine goesL_ (some 31) rfl rfl Try.func69 (by kernel_rfl) rfl #[.slice Ao25 y137.length co25] rfl (by (try simp only [zS,zT,zU]);rfl) ?_;(with_reducible refine (repriseref1_Begins.calls kj2 _ _ y137 false _ ?side1 ?side2 A17.out).mono ?_);(case side1=>exact (Kd.R_reads' HO139.out).2.2);(case side2=>exact (Kd.R_reads' HO139.out).2.1);rintro e w' ⟨rfl,⟨nd,rfl⟩⟩;refine ⟨_,rfl,?_⟩)|((with_reducible refine gate_builtin (b:=.append) (xs:=#[.tmp 33,.tmp 34]) rfl ?_);at_builtin;refine Kd.R_append (Kd.int .i32) (w0:=w) w.heap.size rfl (.tmp 33) (.tmp 34) 92 21 (.int .i32 0) 4 rfl Try.underlying92 info21 rfl (by decide) (by omega) (.slice none 0 0) ([] : List Int) 65533 [.int .i32 65533] (fun _=>True) (fun _=>False) rfl rfl ?aP (fun _ hk=>hk.elim) ?aF ?aO ?aB ?aS ?aL ?_;(case aP=>exact rfl);(case aB=>exact (by repeat ((with_reducible first|exact HB.out|apply pw_below_drewN))));(case aF=>exact (fun _ _=>trivial));(case aO=>exact (by (with_reducible repeat (apply Kd.R_drewN));exact HO_6.out));(case aS=>exact (below_size (by repeat ((with_reducible first|exact HB.out|apply pw_below_drewN)))));(case aL=>have:=LMc22.out;omega);intro v147 w26 ho hb hg hat;rw [← Ny146.out] at ho;have n0_:=zA (Kd.R_over' (by (with_reducible repeat (apply Kd.R_drewN));exact HO139.out) (Kd.R_typed (by (with_reducible repeat (apply Kd.R_drewN));exact HO_6.out)) (by decide) hg);have n1_:=zA (hb);have n2_:=zA (ho);clear HO139;clear HB;clear HO_6;have HO139:=n0_;have HB:=n1_;have HO148:=n2_;clear n0_ n1_ n2_;clear ho hb hg hat));go_meet
          case rel=>exact ⟨_,(y146),H',⟨by have:=HJ2.out;omega⟩,⟨HO148.out⟩,⟨HB.out⟩⟩
         ·rw [if_neg c22] at H;exact absurd H (by simp)
      ·rw [if_neg c9] at H;exact absurd H (by simp)
     ·rw [if_neg c8] at H;exact absurd H (by simp)
    ·replace c7:=Bool.eq_false_iff.mpr c7;subst c7;have H1 : (repriseref1_Step.j1 kj2 a1 ([] : List Int)) = some (r1,r2):=by rw [if_neg (show ¬ (false = true) by decide)] at H;exact H
     clear H;have H:=H1;clear H1;have H':=zA H;clear H;go_wp2;go_meet
     case rel=>exact ⟨_,(([] : List Int)),H',⟨by have:=HJ2.out;omega⟩,⟨HO_6.out⟩,⟨HB.out⟩⟩
   case rest =>
    clear HC6;(try clear c1);(try clear c2);(try clear p2);(try clear c4);(try clear c4b0);(try clear c4b1);(try clear c6);(try clear c7);(try clear c8);(try clear c9);(try clear c11);(try clear c18);(try clear c22);(try clear p2);obtain ⟨kq,x6_5,HA,HJ5,HO_6,HB⟩:=hcut;cases kq with
   |zero=>exact absurd HA.out (by simp [repriseref1_Step.j1])
   |succ kj5 =>
     have H:=HA.out;clear HA;simp only [repriseref1_Step.j1] at H;by_cases c27 : a1 < 128
     ·rw [if_pos c27] at H;have c27b0 : decide (a1 < 128) = true:=zC c27;clear c27;by_cases c28 : x6_5.length < 35184372088832
      ·rw [if_pos c28] at H;have LMc28:=zA c28;clear c28;obtain ⟨y149,hy149⟩ : ∃ y_ : List Int,y_ = (x6_5 ++ [wrap32 (a1)]):=⟨_,rfl⟩;replace H : (some (([] : List Int),y149)) = some (r1,r2):=by (rw [hy149];with_reducible exact H)
       have Ny149:=zA hy149;clear hy149;simp only [Option.some.injEq,Prod.mk.injEq] at H;obtain ⟨rfl,rfl⟩:=H;go_wp2_with (((with_reducible refine gate_builtin (b:=.append) (xs:=#[.tmp 39,.tmp 42]) rfl ?_);at_builtin;refine Kd.R_append (Kd.int .i32) (w0:=w) w.heap.size rfl (.tmp 39) (.tmp 42) 92 21 (.int .i32 0) 4 rfl Try.underlying92 info21 rfl (by decide) (by omega) u6 x6_5 (wrap32 (a1)) [.int .i32 (wrap32 (a1))] (fun _=>True) (fun _=>False) rfl rfl ?aP (fun _ hk=>hk.elim) ?aF ?aO ?aB ?aS ?aL ?_;(case aP=>exact rfl);(case aB=>exact HB.out);(case aF=>exact (fun _ _=>trivial));(case aO=>exact HO_6.out);(case aS=>exact (below_size HB.out));(case aL=>have:=LMc28.out;omega);intro v150 w29 ho hb hg hat;rw [← Ny149.out] at ho;have n0_:=zA (hb);have n1_:=zA (ho);clear HB;clear HO_6;have HB:=n0_;have HO151:=n1_;clear n0_ n1_;clear ho hb hg hat));go_ret2;exact ⟨_,_,by rfl,by exact Kd.R_nil _ _ _ _ _,HO151.out,HB.out⟩
      ·rw [if_neg c28] at H;exact absurd H (by simp)
     ·rw [if_neg c27] at H;have c27b0 : decide (a1 < 128) = false:=zD c27;clear c27;obtain ⟨y152,hy152⟩ : ∃ y_ : List Int,y_ = (([a1] : List Int)):=⟨_,rfl⟩;replace H : ((repriseref1_Begins.f kj5 y152).bind fun t155=>(if t155 = true then (some ((([a1] : List Int)),x6_5)) else (if x6_5.length < 35184372088832 then (some (([] : List Int),(x6_5 ++ [65533]))) else (none)))) = some (r1,r2):=by (rw [hy152];with_reducible exact H)
      have Ny152:=zA hy152;clear hy152;replace H:=Option.bind_eq_some_iff.mp H;obtain ⟨t155,A300,H⟩:=H;replace H : (if t155 = true then (some ((([a1] : List Int)),x6_5)) else (if x6_5.length < 35184372088832 then (some (([] : List Int),(x6_5 ++ [65533]))) else (none))) = some (r1,r2):=H;have A30:=zA A300;clear A300;by_cases c31 : t155 = true
      ·subst c31;have H1 : (some ((([a1] : List Int)),x6_5)) = some (r1,r2):=by rw [if_pos rfl] at H;exact H
       clear H;have H:=H1;clear H1;obtain ⟨y156,hy156⟩ : ∃ y_ : List Int,y_ = (([a1] : List Int)):=⟨_,rfl⟩;replace H : (some (y156,x6_5)) = some (r1,r2):=by (rw [hy156];with_reducible exact H)
       have Ny156:=zA hy156;clear hy156;simp only [Option.some.injEq,Prod.mk.injEq] at H;obtain ⟨rfl,rfl⟩:=H;go_wp2_with (first|((with_reducible refine zG (N:=46) rfl ?_);refine Kd.R_lit (Kd.int .u8) _ 5 ?hg (N:=46) ?hd (xs:=([a1] : List Int)) (inner:=[.int .u8 a1]) (ok:=fun _=>True) (okp:=fun _=>True) ?hr ?hp (fun _ hk=>hk) trivial (zE _ _) (Nat.le_refl _) (by simp) ?_;(case hd=>rfl);(case hg=>rfl);(case hr=>(go_simp;done));(case hp=>exact (Reps.one (show Kd.M (Kd.int .u8) _ _ _ a1 [.int .u8 a1] from rfl) (Reps.none _ _)));intro v153 w32 ho33 hb hg_ hnew_;clear hg_ hnew_;(rw [← Ny152.out] at ho33);have n0_:=zA (Kd.R_below HO_6.out hb);have n1_:=zA (Kd.R_lower ho33 (below_size HB.out));have n2_:=zA (below_step HB.out hb);clear HO_6;clear HB;have HO_6:=n0_;have HO154:=n1_;have HB:=n2_;clear n0_ n1_ n2_;clear hb ho33;obtain ⟨Ao34,co34,eo34⟩:=Kd.R_slice HO154.out;subst eo34)|((with_reducible refine zI (f:=69) rfl ?_);refine goesL_ (some 47) rfl rfl Try.func69 (by kernel_rfl) rfl #[.slice Ao34 y152.length co34] rfl (by (try simp only [zS,zT,zU]);rfl) ?_;(with_reducible refine (repriseref1_Begins.calls kj5 _ _ y152 true _ ?side1 ?side2 A30.out).mono ?_);(case side1=>exact (Kd.R_reads' HO154.out).2.2);(case side2=>exact (Kd.R_reads' HO154.out).2.1);rintro e w' ⟨rfl,⟨nd,rfl⟩⟩;refine ⟨_,rfl,?_⟩)|((with_reducible refine zG (N:=49) rfl ?_);refine Kd.R_lit (Kd.int .u8) _ 5 ?hg (N:=49) ?hd (xs:=([a1] : List Int)) (inner:=[.int .u8 a1]) (ok:=fun _=>True) (okp:=fun _=>True) ?hr ?hp (fun _ hk=>hk) trivial (zE _ _) (Nat.le_refl _) (by simp) ?_;(case hd=>rfl);(case hg=>rfl);(case hr=>(go_simp;done));(case hp=>exact (Reps.one (show Kd.M (Kd.int .u8) _ _ _ a1 [.int .u8 a1] from rfl) (Reps.none _ _)));intro v157 w35 ho36 hb hg_ hnew_;clear hg_ hnew_;(rw [← Ny156.out] at ho36);have n0_:=zA (Kd.R_below (by (with_reducible repeat (apply Kd.R_drewN));exact HO_6.out) hb);have n1_:=zA (Kd.R_elder' (by (with_reducible repeat (apply Kd.R_drewN));exact HO154.out) (Kd.R_base ho36) hb);have n2_:=zA (Kd.R_lower (Kd.R_new' ho36 (Kd.R_lt (by (with_reducible repeat (apply Kd.R_drewN));exact HO154.out))) (below_size (by repeat ((with_reducible first|exact HB.out|apply pw_below_drewN)))));have n3_:=zA (below_step (by repeat ((with_reducible first|exact HB.out|apply pw_below_drewN))) hb);clear HO_6;clear HO154;clear HB;have HO_6:=n0_;have HO154:=n1_;have HO158:=n2_;have HB:=n3_;clear n0_ n1_ n2_ n3_;clear hb ho36));go_ret2;exact ⟨_,_,by rfl,by exact Kd.R_mono HO158.out (fun _ hk=>trivial),HO_6.out,HB.out⟩
      ·replace c31:=Bool.eq_false_iff.mpr c31;subst c31;have H1 : (if x6_5.length < 35184372088832 then (some (([] : List Int),(x6_5 ++ [65533]))) else (none)) = some (r1,r2):=by rw [if_neg (show ¬ (false = true) by decide)] at H;exact H
       clear H;have H:=H1;clear H1;by_cases c37 : x6_5.length < 35184372088832
       ·rw [if_pos c37] at H;have LMc37:=zA c37;clear c37;obtain ⟨y159,hy159⟩ : ∃ y_ : List Int,y_ = (x6_5 ++ [65533]):=⟨_,rfl⟩;replace H : (some (([] : List Int),y159)) = some (r1,r2):=by (rw [hy159];with_reducible exact H)
        have Ny159:=zA hy159;clear hy159;simp only [Option.some.injEq,Prod.mk.injEq] at H;obtain ⟨rfl,rfl⟩:=H;go_wp2_with (first|((with_reducible refine zG (N:=46) rfl ?_);refine Kd.R_lit (Kd.int .u8) _ 5 ?hg (N:=46) ?hd (xs:=([a1] : List Int)) (inner:=[.int .u8 a1]) (ok:=fun _=>True) (okp:=fun _=>True) ?hr ?hp (fun _ hk=>hk) trivial (zE _ _) (Nat.le_refl _) (by simp) ?_;(case hd=>rfl);(case hg=>rfl);(case hr=>(go_simp;done));(case hp=>exact (Reps.one (show Kd.M (Kd.int .u8) _ _ _ a1 [.int .u8 a1] from rfl) (Reps.none _ _)));intro v153 w38 ho39 hb hg_ hnew_;clear hg_ hnew_;(rw [← Ny152.out] at ho39);have n0_:=zA (Kd.R_below HO_6.out hb);have n1_:=zA (Kd.R_lower ho39 (below_size HB.out));have n2_:=zA (below_step HB.out hb);clear HO_6;clear HB;have HO_6:=n0_;have HO154:=n1_;have HB:=n2_;clear n0_ n1_ n2_;clear hb ho39;obtain ⟨Ao40,co40,eo40⟩:=Kd.R_slice HO154.out;subst eo40)|((with_reducible refine zI (f:=69) rfl ?_);refine goesL_ (some 47) rfl rfl Try.func69 (by kernel_rfl) rfl #[.slice Ao40 y152.length co40] rfl (by (try simp only [zS,zT,zU]);rfl) ?_;(with_reducible refine (repriseref1_Begins.calls kj5 _ _ y152 false _ ?side1 ?side2 A30.out).mono ?_);(case side1=>exact (Kd.R_reads' HO154.out).2.2);(case side2=>exact (Kd.R_reads' HO154.out).2.1);rintro e w' ⟨rfl,⟨nd,rfl⟩⟩;refine ⟨_,rfl,?_⟩)|((with_reducible refine gate_builtin (b:=.append) (xs:=#[.tmp 51,.tmp 52]) rfl ?_);at_builtin;refine Kd.R_append (Kd.int .i32) (w0:=w) w.heap.size rfl (.tmp 51) (.tmp 52) 92 21 (.int .i32 0) 4 rfl Try.underlying92 info21 rfl (by decide) (by omega) u6 x6_5 65533 [.int .i32 65533] (fun _=>True) (fun _=>False) rfl rfl ?aP (fun _ hk=>hk.elim) ?aF ?aO ?aB ?aS ?aL ?_;(case aP=>exact rfl);(case aB=>exact (by repeat ((with_reducible first|exact HB.out|apply pw_below_drewN))));(case aF=>exact (fun _ _=>trivial));(case aO=>exact (by (with_reducible repeat (apply Kd.R_drewN));exact HO_6.out));(case aS=>exact (below_size (by repeat ((with_reducible first|exact HB.out|apply pw_below_drewN)))));(case aL=>have:=LMc37.out;omega);intro v160 w41 ho hb hg hat;rw [← Ny159.out] at ho;have n0_:=zA (Kd.R_over' (by (with_reducible repeat (apply Kd.R_drewN));exact HO154.out) (Kd.R_typed (by (with_reducible repeat (apply Kd.R_drewN));exact HO_6.out)) (by decide) hg);have n1_:=zA (hb);have n2_:=zA (ho);clear HO154;clear HB;clear HO_6;have HO154:=n0_;have HB:=n1_;have HO161:=n2_;clear n0_ n1_ n2_;clear ho hb hg hat));go_ret2;exact ⟨_,_,by rfl,by exact Kd.R_nil _ _ _ _ _,HO161.out,HB.out⟩
       ·rw [if_neg c37] at H;exact absurd H (by simp)
end Go.Proofs.Ytooageeehallbaa.QRunsCut
namespace Go.Proofs.Ytooageeehallbaa.Scr
open Go.RowKit Go.Proofs.YtooageeehallbaaW.PrintWords Go.Proofs.YtooageeehallbaaW.PrintLast Go.Proofs.YtooageeehallbaaW.PrintMore Go.Proofs.Ytooageeehallbaa.QRunsCut
set_option linter.unusedVariables false
def AttrOk (a : Int) : Prop:=0 ≤ a∧a < 4096∧a / 8 % 2 = 0∧a / 16 % 16 ≤ 8∧a / 256 ≤ 8
structure CellOk (c : S35) : Prop where
 r0 : 0 ≤ c.f0
 r1 : c.f0 ≤ 1114111
 rs : ¬ (55296 ≤ c.f0∧c.f0 < 57344)
 a : AttrOk c.f1
 h0 : 0 ≤ c.f2
 h2 : c.f2 ≤ 2
 hz : c.f0 = 0 ↔ c.f2 = 2
def cblank : S35:=⟨32,0,0⟩
structure Small (rows cols : Int) : Prop where
 r0 : 1 ≤ rows
 r1 : rows ≤ 1000
 c0 : 1 ≤ cols
 c1 : cols ≤ 1000
/-- In row y each half has the other half beside it. -/
def RowWhole (cols y : Int) (l : List S35) : Prop :=
 ∀ x,0 ≤ x → x < cols → ((rd_T35 l (y * cols + x)).f2 = 1 → x + 1 < cols∧(rd_T35 l (y * cols + x + 1)).f2 = 2)∧((rd_T35 l (y * cols + x)).f2 = 2 → 0 < x∧(rd_T35 l (y * cols + x - 1)).f2 = 1)
/-- Cells of a grid,all rows but y0 whole. -/
structure GridBut (rows cols y0 : Int) (l : List S35) : Prop where
 len : (l.length : Int) = rows * cols
 ok : ∀ c ∈ l,CellOk c
 whole : ∀ y,0 ≤ y → y < rows → y ≠ y0 → RowWhole cols y l
def Grid (rows cols : Int) (l : List S35) : Prop:=GridBut rows cols (-1) l
theorem Grid.but {rows cols : Int} {l : List S35} (h : Grid rows cols l) (y0 : Int) : GridBut rows cols y0 l:=⟨h.len,h.ok,fun y h0 h1 _=>h.whole y h0 h1 (by omega)⟩
theorem CellOk.blank : CellOk cblank:=⟨by decide,by decide,by decide,⟨by decide,by decide,by decide,by decide,by decide⟩,by decide,by decide,by decide⟩
theorem attr0 : AttrOk 0:=⟨by decide,by decide,by decide,by decide,by decide⟩
section
variable {rows cols : Int} {l : List S35}
def RuneOk (r : Int) : Prop:=0 ≤ r∧r ≤ 1114111∧¬ (55296 ≤ r∧r < 57344)
/-- The product of a row's number and the columns. -/
theorem mul_rows {rows cols y : Int} (hs : Small rows cols) (hy : 0 ≤ y∧y < rows) : 0 ≤ y * cols∧y * cols + cols ≤ rows * cols∧rows * cols ≤ 1000000∧(y + 1) * cols = y * cols + cols:=by
 have h1 : 0 ≤ y * cols:=Int.mul_nonneg hy.1 (by have:=hs.c0;omega);have e : (y + 1) * cols = y * cols + cols:=by rw [Int.add_mul,Int.one_mul]
 have h2 : (y + 1) * cols ≤ rows * cols:=Int.mul_le_mul_of_nonneg_right (by omega) (by have:=hs.c0;omega);have h3 : rows * cols ≤ 1000 * 1000:=Int.mul_le_mul hs.r1 hs.c1 (by have:=hs.c0;omega) (by decide);refine ⟨h1,by omega,by omega,e⟩
/-- A range of cells that holds each row but y wholly or not at all. -/
structure EraR (rows cols y fr tt : Int) : Prop where
 h0 : 0 ≤ fr
 hle : fr ≤ tt
 h1 : tt ≤ rows * cols
 rows : ∀ y',0 ≤ y' → y' < rows → y' ≠ y → (fr ≤ y' * cols∧y' * cols + cols ≤ tt)∨y' * cols + cols ≤ fr∨tt ≤ y' * cols
theorem era_range {rows cols y x fr tt : Int} (hs : Small rows cols) (hy : 0 ≤ y∧y < rows) (hx : 0 ≤ x∧x < cols) (h : (fr = y * cols∧tt = y * cols + cols)∨(fr = 0∧tt = rows * cols)) :
 EraR rows cols y fr tt∧EraR rows cols y (y * cols + x) tt∧EraR rows cols y fr (y * cols + x + 1):=by
 obtain ⟨m1,m2,m3,_⟩:=mul_rows hs hy;have key : ∀ y',0 ≤ y' → y' < rows → y' ≠ y → (0 ≤ y' * cols∧y' * cols + cols ≤ rows * cols)∧(y' * cols + cols ≤ y * cols∨y * cols + cols ≤ y' * cols):=by
  intro y' h0 h1 hne;obtain ⟨n1,n2,_,_⟩:=mul_rows hs ⟨h0,h1⟩;refine ⟨⟨n1,n2⟩,?_⟩;rcases Int.lt_or_lt_of_ne hne with hlt|hlt
  ·left
   have:=Int.mul_le_mul_of_nonneg_right (show y' + 1 ≤ y by omega) (show 0 ≤ cols by have:=hs.c0;omega);rw [Int.add_mul,Int.one_mul] at this;exact this
  ·right
   have:=Int.mul_le_mul_of_nonneg_right (show y + 1 ≤ y' by omega) (show 0 ≤ cols by have:=hs.c0;omega);rw [Int.add_mul,Int.one_mul] at this;exact this
 refine ⟨⟨by omega,by omega,by omega,fun y' h0 h1 hne=>?_⟩,⟨by omega,by omega,by omega,fun y' h0 h1 hne=>?_⟩,⟨by omega,by omega,by omega,fun y' h0 h1 hne=>?_⟩⟩ <;>
 ·have:=key y' h0 h1 hne;omega
/-- Behind so many rounds of erasing. -/
def Era (l : List S35) (fr i : Int) (l' : List S35) : Prop:=l'.length = l.length∧∀ j,0 ≤ j → j < (l.length : Int) → rd_T35 l' j = if fr ≤ j∧j < i then cblank else rd_T35 l j
theorem Era.zero (l : List S35) (fr : Int) : Era l fr fr l:=⟨rfl,fun j _ _=>by rw [if_neg (by omega)]⟩
theorem Era.step {l l' : List S35} {fr i : Int} (h : Era l fr i l') (h0 : 0 ≤ fr) (h1 : fr ≤ i) : Era l fr (i + 1) (l'.set i.toNat cblank):=by
 refine ⟨by rw [List.length_set];exact h.1,fun j hj0 hj1=>?_⟩;have hl:=h.1;unfold rd_T35 at *;by_cases e : j = i
 ·subst e;rw [if_pos (by omega),List.getD_eq_getElem?_getD,List.getElem?_set,if_pos rfl,if_pos (by omega)];rfl
 ·have:=h.2 j hj0 hj1;unfold rd_T35 at this;rw [List.getD_eq_getElem?_getD,List.getElem?_set,if_neg (by omega),← List.getD_eq_getElem?_getD,this];by_cases c : fr ≤ j∧j < i
  ·rw [if_pos c,if_pos (by omega)]
  ·rw [if_neg c,if_neg (by omega)]
theorem mem_rd {l : List S35} {P : S35 → Prop} (h : ∀ j : Int,0 ≤ j → j < (l.length : Int) → P (rd_T35 l j)) : ∀ c ∈ l,P c:=by
 intro c hc;obtain ⟨n,hn,rfl⟩:=List.getElem_of_mem hc;have:=h (n : Int) (by omega) (by omega);unfold rd_T35 at this;rw [List.getD_eq_getElem?_getD,Int.toNat_natCast,List.getElem?_eq_getElem hn] at this;exact this
theorem rd_mem {l : List S35} {P : S35 → Prop} (h : ∀ c ∈ l,P c) {j : Int} (h0 : 0 ≤ j) (h1 : j < (l.length : Int)) : P (rd_T35 l j):=by
 unfold rd_T35;rw [List.getD_eq_getElem?_getD,List.getElem?_eq_getElem (by omega)];exact h _ (List.getElem_mem _)
theorem era_done {rows cols y fr tt : Int} {l l' : List S35} (hs : Small rows cols) (h : Grid rows cols l) (hr : EraR rows cols y fr tt) (he : Era l fr tt l') : GridBut rows cols y l':=by
 have hlen:=h.len;refine ⟨by rw [he.1];exact h.len,mem_rd (fun j h0 h1=>?_),fun y' h0 h1 hne x hx0 hx1=>?_⟩
 ·rw [he.2 j h0 (by rw [← he.1];exact h1)];split
  ·exact CellOk.blank
  ·exact rd_mem h.ok h0 (by rw [← he.1];exact h1)
 ·obtain ⟨n1,n2,_,_⟩:=mul_rows hs ⟨h0,h1⟩;have hw:=h.whole y' h0 h1 (by omega) x hx0 hx1;have hz : cblank.f2 = 0:=rfl;have hrow : ∀ x',0 ≤ x' → x' < cols → rd_T35 l' (y' * cols + x') = if fr ≤ y' * cols∧y' * cols + cols ≤ tt then cblank else rd_T35 l (y' * cols + x'):=by
   intro x' h2 h3;rw [he.2 _ (by omega) (by omega)];have:=hr.rows y' h0 h1 hne;by_cases c : fr ≤ y' * cols∧y' * cols + cols ≤ tt
   ·rw [if_pos c,if_pos (by omega)]
   ·rw [if_neg c,if_neg (by omega)]
  rw [hrow x hx0 hx1];by_cases c : fr ≤ y' * cols∧y' * cols + cols ≤ tt
  ·rw [if_pos c,hz];exact ⟨fun e=>by omega,fun e=>by omega⟩
  ·rw [if_neg c];refine ⟨fun e=>?_,fun e=>?_⟩
   ·obtain ⟨q1,q2⟩:=hw.1 e;refine ⟨q1,?_⟩;have e2 : y' * cols + x + 1 = y' * cols + (x + 1):=by omega
    rw [e2,hrow (x + 1) (by omega) q1,if_neg c,← e2];exact q2
   ·obtain ⟨q1,q2⟩:=hw.2 e;refine ⟨q1,?_⟩;have e2 : y' * cols + x - 1 = y' * cols + (x - 1):=by omega
    rw [e2,hrow (x - 1) (by omega) (by omega),if_neg c,← e2];exact q2
def ParamsOk (l : List Int) : Prop:=l.length ≤ 16∧∀ p ∈ l,0 ≤ p∧p ≤ 65535
theorem params_nil : ParamsOk []:=⟨by decide,fun _ h=>by cases h⟩
theorem param_ok {l : List Int} (h : ParamsOk l) {i u : Int} (hi : 0 ≤ i) (hu : 0 ≤ u∧u ≤ 65535) : ∃ r,repriseref7_param.f l i u = some r∧(0 ≤ r∧r ≤ 65535)∧(1 ≤ u → 1 ≤ r):=by
 unfold repriseref7_param.f;by_cases h1 : i ≥ (l.length : Int)
 ·exact ⟨u,by rw [if_pos h1],hu,id⟩
 ·rw [if_neg h1,if_pos hi,if_pos (by omega)];have hm : rd l i ∈ l:=by
   unfold rd;rw [List.getD_eq_getElem?_getD,List.getElem?_eq_getElem (by omega)];exact List.getElem_mem _
  have:=h.2 _ hm;by_cases h2 : rd l i = 0
  ·exact ⟨u,by rw [if_pos h2],hu,id⟩
  ·exact ⟨_,by rw [if_neg h2],this,fun _=>by omega⟩
def Bytes8 (l : List Int) : Prop:=∀ b ∈ l,0 ≤ b∧b ≤ 255
end
end Go.Proofs.Ytooageeehallbaa.Scr
namespace Go.Proofs.Ytooageeehallbaa.Scr
open Go.RowKit Go.Proofs.YtooageeehallbaaW.PrintWords Go.Proofs.YtooageeehallbaaW.PrintLast Go.Proofs.YtooageeehallbaaW.PrintMore Go.Proofs.Ytooageeehallbaa.QRunsCut
set_option linter.unusedVariables false
/-- A range of a list has been written. -/
def Patch (l : List S35) (lo hi : Int) (src : Int → S35) (out : List S35) : Prop:=out.length = l.length∧∀ j,0 ≤ j → j < (l.length : Int) → rd_T35 out j = if lo ≤ j∧j < hi then src j else rd_T35 l j
section
variable {rows cols y lo hi : Int} {l out : List S35} {src : Int → S35}
theorem Patch.zero (l : List S35) (lo : Int) (src : Int → S35) : Patch l lo lo src l:=⟨rfl,fun j _ _=>by rw [if_neg (by omega)]⟩
theorem rd_set {l : List S35} {i j : Int} {c : S35} (hi : 0 ≤ i) (h0 : 0 ≤ j) (h1 : j < (l.length : Int)) : rd_T35 (l.set i.toNat c) j = if j = i then c else rd_T35 l j:=by
 unfold rd_T35;rw [List.getD_eq_getElem?_getD,List.getElem?_set];by_cases e : j = i
 ·subst e;rw [if_pos rfl,if_pos rfl,if_pos (by omega)];rfl
 ·rw [if_neg e,if_neg (by omega),← List.getD_eq_getElem?_getD]
theorem Patch.step (h : Patch l lo hi src out) (h0 : 0 ≤ lo) (h1 : lo ≤ hi) : Patch l lo (hi + 1) src (out.set hi.toNat (src hi)):=by
 refine ⟨by rw [List.length_set];exact h.1,fun j hj0 hj1=>?_⟩;rw [rd_set (by omega) hj0 (by rw [h.1];exact hj1)];by_cases e : j = hi
 ·subst e;rw [if_pos rfl,if_pos (by omega)]
 ·rw [if_neg e,h.2 j hj0 hj1];by_cases c : lo ≤ j∧j < hi
  ·rw [if_pos c,if_pos (by omega)]
  ·rw [if_neg c,if_neg (by omega)]
theorem Patch.keep (h : Patch l lo hi src out) (he : 0 ≤ hi → hi < (l.length : Int) → src hi = rd_T35 l hi) : Patch l lo (hi + 1) src out:=by
 refine ⟨h.1,fun j hj0 hj1=>?_⟩;rw [h.2 j hj0 hj1];by_cases e : j = hi
 ·subst e;rw [if_neg (by omega)];split
  ·exact (he hj0 hj1).symm
  ·rfl
 ·by_cases c : lo ≤ j∧j < hi
  ·rw [if_pos c,if_pos (by omega)]
  ·rw [if_neg c,if_neg (by omega)]
theorem own_eq (hl : l.length < 17592186044416) : repriseref7_own.f l = some l:=by
 unfold repriseref7_own.f;rw [if_pos (by simpa using hl)];rfl
theorem len_lt (hs : Small rows cols) (h : (l.length : Int) = rows * cols) : (l.length : Int) ≤ 1000000∧l.length < 17592186044416∧1 ≤ (l.length : Int):=by
 have h3 : rows * cols ≤ 1000 * 1000:=Int.mul_le_mul hs.r1 hs.c1 (by have:=hs.c0;omega) (by decide);have h4 : 1 * 1 ≤ rows * cols:=Int.mul_le_mul hs.r0 hs.c0 (by decide) (by have:=hs.r0;omega);omega
theorem grid_eq (hs : Small rows cols) (h : (l.length : Int) = rows * cols) : repriseref7_grid.f l cols = some (rows,true):=by
 have hc:=hs.c0;have hc1:=hs.c1;have hr:=hs.r0;have hr1:=hs.r1;have e1 : rows * cols % cols = 0:=Int.mul_emod_left rows cols;have e2 : rows * cols / cols = rows:=Int.mul_ediv_cancel rows (by omega);have e3 : wrap64 rows = rows:=by unfold wrap64;omega
 unfold repriseref7_grid.f;rw [if_neg (by omega),if_neg (by omega),if_neg (by omega),h,if_pos e1,e2,e3,if_neg (by omega),if_neg (by omega)]
theorem place_eq (hs : Small rows cols) (h : (l.length : Int) = rows * cols) (y x : Int) : repriseref7_place.f l cols y x = some (decide (0 ≤ y∧y < rows∧0 ≤ x∧x ≤ cols)):=by
 unfold repriseref7_place.f;rw [grid_eq hs h,zX];simp only [if_true];by_cases h1 : y ≥ 0
 ·rw [if_pos h1];by_cases h2 : y < rows
  ·rw [if_pos h2];by_cases h3 : x ≥ 0
   ·rw [if_pos h3];congr 1
    simp only [decide_eq_decide];omega
   ·rw [if_neg h3];congr 1
    symm
    simp only [decide_eq_false_iff_not];omega
  ·rw [if_neg h2];congr 1
   symm
   simp only [decide_eq_false_iff_not];omega
 ·rw [if_neg h1];congr 1
  symm
  simp only [decide_eq_false_iff_not];omega
/-- y1 * cols + x lies ahead of row y2's end just if y1 is not behind y2. -/
theorem row_lt {y1 y2 x : Int} (hx : 0 ≤ x∧x < cols) : (y1 * cols + x < y2 * cols + cols) ↔ y1 ≤ y2:=by
 constructor
 ·intro h;rcases Int.lt_or_le y2 y1 with h1|h1
  ·have:=Int.mul_le_mul_of_nonneg_right (show y2 + 1 ≤ y1 by omega) (show 0 ≤ cols by omega);rw [Int.add_mul,Int.one_mul] at this;omega
  ·exact h1
 ·intro h;have:=Int.mul_le_mul_of_nonneg_right h (show 0 ≤ cols by omega);omega
theorem row_copy {y' : Int} {l' : List S35} (h : ∀ x,0 ≤ x → x < cols → rd_T35 l' (y * cols + x) = rd_T35 l (y' * cols + x)) (hw : RowWhole cols y' l) : RowWhole cols y l':=by
 intro x h0 h1;have hx:=hw x h0 h1;rw [h x h0 h1];refine ⟨fun e=>?_,fun e=>?_⟩
 ·obtain ⟨q1,q2⟩:=hx.1 e;refine ⟨q1,?_⟩;rw [show y * cols + x + 1 = y * cols + (x + 1) by omega,h (x + 1) (by omega) q1,show y' * cols + (x + 1) = y' * cols + x + 1 by omega];exact q2
 ·obtain ⟨q1,q2⟩:=hx.2 e;refine ⟨q1,?_⟩;rw [show y * cols + x - 1 = y * cols + (x - 1) by omega,h (x - 1) (by omega) (by omega),show y' * cols + (x - 1) = y' * cols + x - 1 by omega];exact q2
theorem row_blank {l' : List S35} (h : ∀ x,0 ≤ x → x < cols → rd_T35 l' (y * cols + x) = cblank) : RowWhole cols y l':=by
 intro x h0 h1;rw [h x h0 h1];exact ⟨fun e=>absurd e (by decide),fun e=>absurd e (by decide)⟩
theorem Patch.ok (h : ∀ c ∈ l,CellOk c) (hp : Patch l lo hi src out) (hsrc : ∀ j,lo ≤ j → j < hi → 0 ≤ j → j < (l.length : Int) → CellOk (src j)) : ∀ c ∈ out,CellOk c :=
 mem_rd (fun j h0 h1=>by
  have h1' : j < (l.length : Int):=by rw [← hp.1];exact h1
  rw [hp.2 j h0 h1'];split
  ·rename_i c
   exact hsrc j c.1 c.2 h0 h1'
  ·exact rd_mem h h0 h1')
/-- Rows that are other rows,or blank. -/
theorem Patch.grid {top bottom : Int} (hs : Small rows cols) (h : Grid rows cols l) (ht : 0 ≤ top) (hb : bottom < rows) (hp : Patch l (top * cols) (bottom * cols + cols) src out)
 (hsrc : ∀ y,top ≤ y → y ≤ bottom → (∃ y',0 ≤ y'∧y' < rows∧∀ x,0 ≤ x → x < cols → src (y * cols + x) = rd_T35 l (y' * cols + x))∨∀ x,0 ≤ x → x < cols → src (y * cols + x) = cblank) : Grid rows cols out:=by
 have hlen:=h.len;have hin : ∀ y x,0 ≤ y → y < rows → 0 ≤ x → x < cols → rd_T35 out (y * cols + x) = if top ≤ y∧y ≤ bottom then src (y * cols + x) else rd_T35 l (y * cols + x):=by
  intro y x h0 h1 h2 h3;obtain ⟨m1,m2,_,_⟩:=mul_rows hs ⟨h0,h1⟩;rw [hp.2 _ (by omega) (by omega)];have e1:=row_lt (cols:=cols) (y1:=y) (y2:=bottom) ⟨h2,h3⟩;have e2 : (top * cols ≤ y * cols + x) ↔ top ≤ y:=by
   have:=row_lt (cols:=cols) (y1:=y) (y2:=top - 1) ⟨h2,h3⟩;rw [Int.sub_mul,Int.one_mul] at this;omega
  by_cases c : top ≤ y∧y ≤ bottom
  ·rw [if_pos c,if_pos ⟨e2.2 c.1,e1.2 c.2⟩]
  ·rw [if_neg c,if_neg (by rw [e1,e2];exact c)]
 refine ⟨by rw [hp.1];exact hlen,?_,?_⟩
 ·refine hp.ok h.ok (fun j h1 h2 h3 h4=>?_);have hc:=hs.c0;have hd : j / cols * cols + j % cols = j:=by rw [Int.mul_comm];exact Int.mul_ediv_add_emod j cols
  have hm0:=Int.emod_nonneg j (show cols ≠ 0 by omega);have hm1:=Int.emod_lt_of_pos j (show 0 < cols by omega);have e1:=row_lt (cols:=cols) (y1:=j / cols) (y2:=bottom) ⟨hm0,hm1⟩;have e2:=row_lt (cols:=cols) (y1:=j / cols) (y2:=top - 1) ⟨hm0,hm1⟩;rw [Int.sub_mul,Int.one_mul] at e2;rw [hd] at e1 e2;rcases hsrc (j / cols) (by omega) (by omega) with ⟨y',a,b,c⟩|c
  ·have:=c _ hm0 hm1;rw [hd] at this;rw [this];obtain ⟨m1,m2,_,_⟩:=mul_rows hs ⟨a,b⟩;exact rd_mem h.ok (by omega) (by omega)
  ·have:=c _ hm0 hm1;rw [hd] at this;rw [this];exact CellOk.blank
 ·intro y h0 h1 hne;by_cases c : top ≤ y∧y ≤ bottom
  ·rcases hsrc y c.1 c.2 with ⟨y',a,b,d⟩|d
   ·exact row_copy (fun x h2 h3=>by rw [hin y x h0 h1 h2 h3,if_pos c];exact d x h2 h3) (h.whole y' a b (by omega))
   ·exact row_blank (fun x h2 h3=>by rw [hin y x h0 h1 h2 h3,if_pos c];exact d x h2 h3)
  ·exact row_copy (fun x h2 h3=>by rw [hin y x h0 h1 h2 h3,if_neg c]) (h.whole y h0 h1 (by omega))
/-- A part of a row was written. -/
theorem Patch.but (hs : Small rows cols) (h : Grid rows cols l) (hy : 0 ≤ y∧y < rows) (hlo : y * cols ≤ lo) (hhi : hi ≤ y * cols + cols) (hp : Patch l lo hi src out) (hsrc : ∀ j,lo ≤ j → j < hi → 0 ≤ j → j < (l.length : Int) → CellOk (src j)) : GridBut rows cols y out:=by
 have hlen:=h.len;refine ⟨by rw [hp.1];exact hlen,hp.ok h.ok hsrc,fun y' h0 h1 hne=>row_copy (fun x h2 h3=>?_) (h.whole y' h0 h1 (by omega))⟩;obtain ⟨m1,m2,_,_⟩:=mul_rows hs ⟨h0,h1⟩;rw [hp.2 _ (by omega) (by omega)];have e1:=row_lt (cols:=cols) (y1:=y') (y2:=y) ⟨h2,h3⟩;have e2:=row_lt (cols:=cols) (y1:=y') (y2:=y - 1) ⟨h2,h3⟩;rw [Int.sub_mul,Int.one_mul] at e2;rw [if_neg (by omega)]
end
end Go.Proofs.Ytooageeehallbaa.Scr
namespace Go.Proofs.Ytooageeehallbaa.Scr
open Go.RowKit Go.Proofs.YtooageeehallbaaW.PrintWords Go.Proofs.YtooageeehallbaaW.PrintLast Go.Proofs.YtooageeehallbaaW.PrintMore Go.Proofs.Ytooageeehallbaa.QRunsCut
set_option linter.unusedVariables false
theorem w64 {a : Int} (h : -10000000 ≤ a∧a ≤ 10000000) : wrap64 a = a:=by unfold wrap64;omega
theorem clamp_ok {a n : Int} (hn : 0 ≤ n) : 0 ≤ mn (mx a 0) n∧mn (mx a 0) n ≤ n:=by
 unfold mn mx;constructor <;> (repeat' split) <;> omega
section
variable {rows cols : Int} {l : List S35}
theorem blank_run (L : List S35) (hL : (L.length : Int) ≤ 1000000) : ∀ (m : Nat) (i : Int) (out : List S35),i + m = (L.length : Int) → 0 ≤ i → Patch L 0 i (fun _=>cblank) out → ∃ k out',repriseref7_Blank.l0 k out i = some out'∧Patch L 0 (L.length : Int) (fun _=>cblank) out'
|0,i,out,hm,h0,hp=>by
  refine ⟨1,out,?_,?_⟩
  ·unfold repriseref7_Blank.l0;rw [if_neg (by rw [hp.1];omega)]
  ·have : i = (L.length : Int):=by omega
   rw [← this];exact hp
|m + 1,i,out,hm,h0,hp=>by
  obtain ⟨k,out',h1,h2⟩:=blank_run L hL m (i + 1) _ (by omega) (by omega) (hp.step (Int.le_refl 0) h0);refine ⟨k + 1,out',?_,h2⟩;unfold repriseref7_Blank.l0;rw [if_pos (by rw [hp.1];omega),show repriseref7_blank.f = some (32,0,0) from rfl,zX,if_pos h0,w64 (by omega)];exact h1
theorem blank_j0 (k : Nat) (a b : Int) (c : Bool) : repriseref7_Blank.j0 (k + 1) a b c = if c = true then (some ([] : List (S35))) else (if 0 ≤ (wrap64 (a * b)) then (if (wrap64 (a * b) : Int).toNat ≤ 35184372088832 then (repriseref7_Blank.l0 k (List.replicate (wrap64 (a * b) : Int).toNat z35) 0) else (none)) else (none)):=by rw [repriseref7_Blank.j0]
theorem up_j0 (k : Nat) (x0 : List S35) (x1 x2 x3 x4 : Int) (x11 : List S35) (b : Bool) : repriseref7_Up.j0 (k + 1) x0 x1 x2 x3 x4 x11 b = if b = true then (some x11) else (repriseref7_Up.l0 k x0 x1 x3 (mn (mx x4 0) 1000) x11 x2):=by rw [repriseref7_Up.j0]
theorem dn_j0 (k : Nat) (x0 : List S35) (x1 x2 x3 x4 : Int) (x11 : List S35) (b : Bool) : repriseref7_Down.j0 (k + 1) x0 x1 x2 x3 x4 x11 b = if b = true then (some x11) else (repriseref7_Down.l0 k x0 x1 x2 x3 (mn (mx x4 0) 1000) x11 x2):=by rw [repriseref7_Down.j0]
theorem blank_okP (hs : Small rows cols) : ∃ k l',repriseref7_Blank.f k rows cols = some l'∧Grid rows cols l':=by
 obtain ⟨r0,r1,c0,c1⟩:=hs;have h3 : rows * cols ≤ 1000 * 1000:=Int.mul_le_mul r1 c1 (by omega) (by decide);have h4 : 1 * 1 ≤ rows * cols:=Int.mul_le_mul r0 c0 (by decide) (by omega);have hlen : ((List.replicate (rows * cols).toNat z35).length : Int) = rows * cols:=by rw [List.length_replicate];omega
 obtain ⟨k,out',h1,h2⟩:=blank_run (List.replicate (rows * cols).toNat z35) (by omega) (rows * cols).toNat 0 _ (by omega) (Int.le_refl 0) (Patch.zero _ _ _);have hall : ∀ j,0 ≤ j → j < rows * cols → rd_T35 out' j = cblank:=by
  intro j hj0 hj1;rw [h2.2 j hj0 (by omega),if_pos (by omega)]
 refine ⟨k + 1,out',?_,by rw [h2.1];exact hlen,mem_rd (fun j hj0 hj1=>?_),fun y hy0 hy1 _=>row_blank (fun x hx0 hx1=>?_)⟩
 ·unfold repriseref7_Blank.f;rw [if_neg (by omega),if_neg (by omega),if_neg (by omega),zD (by omega)];rw [blank_j0,if_neg (by decide),w64 (by omega),if_pos (by omega),if_pos (by omega)];exact h1
 ·rw [hall j hj0 (by rw [h2.1,hlen] at hj1;exact hj1)];exact CellOk.blank
 ·obtain ⟨m1,m2,_,_⟩:=mul_rows ⟨r0,r1,c0,c1⟩ ⟨hy0,hy1⟩;exact hall _ (by omega) (by omega)
theorem s35_eta (c : S35) : (⟨c.f0,c.f1,c.f2⟩ : S35) = c:=rfl
/-! #### Up -/
def upSrc (l : List S35) (cols bottom n j : Int) : S35:=if j + n * cols < bottom * cols + cols then rd_T35 l (j + n * cols) else cblank
theorem up_inner (hs : Small rows cols) (h : Grid rows cols l) {top bottom n y : Int} (ht : 0 ≤ top) (hb : bottom < rows) (hn : 0 ≤ n∧n ≤ 1000) (hy : top ≤ y∧y ≤ bottom) : ∀ (m : Nat) (x : Int) (out : List S35),x + m = cols → 0 ≤ x → Patch l (top * cols) (y * cols + x) (upSrc l cols bottom n) out →
 ∃ out',(∀ k r,repriseref7_Up.l0 k l cols bottom n out' (y + 1) = some r → ∃ k',repriseref7_Up.l1 k' l cols bottom n out y x = some r)∧Patch l (top * cols) (y * cols + cols) (upSrc l cols bottom n) out'
|0,x,out,hm,h0,hp=>by
  refine ⟨out,fun k r hr=>⟨k + 1,?_⟩,?_⟩
  ·unfold repriseref7_Up.l1;rw [if_neg (by omega),w64 (by have:=hs.r1;omega)];exact hr
  ·have : x = cols:=by omega
   rw [this] at hp;exact hp
|m + 1,x,out,hm,h0,hp=>by
  have hx : 0 ≤ x∧x < cols:=⟨h0,by omega⟩;obtain ⟨m1,m2,m3,_⟩:=mul_rows hs (y:=y) ⟨by omega,by omega⟩;have hlen:=h.len;have htop : top * cols ≤ y * cols:=Int.mul_le_mul_of_nonneg_right hy.1 (by have:=hs.c0;omega);have ht0 : 0 ≤ top * cols:=Int.mul_nonneg ht (by have:=hs.c0;omega);obtain ⟨out',hk,hp'⟩:=up_inner hs h ht hb hn hy m (x + 1) _ (by omega) (by omega) (by rw [show y * cols + (x + 1) = y * cols + x + 1 by omega];exact hp.step ht0 (by omega));refine ⟨out',fun k r hr=>?_,hp'⟩;obtain ⟨k',hk'⟩:=hk k r hr;refine ⟨k' + 1,?_⟩;have hcr:=hs.r1;have hcc:=hs.c1;unfold repriseref7_Up.l1;rw [if_pos hx.2,show repriseref7_blank.f = some (32,0,0) from rfl,zX,w64 (a:=y + n) (by omega),w64 (a:=y * cols) (by omega),w64 (a:=y * cols + x) (by omega),w64 (a:=x + 1) (by omega)];have e0 : (y + n) * cols + x = y * cols + x + n * cols:=by rw [Int.add_mul];omega
  have e1:=row_lt (cols:=cols) (y1:=y + n) (y2:=bottom) hx;rw [e0] at e1;by_cases c : y + n ≤ bottom
  ·obtain ⟨n1,n2,n3,_⟩:=mul_rows hs (y:=y + n) ⟨by omega,by omega⟩;have e2:=e1.2 c;have es : upSrc l cols bottom n (y * cols + x) = rd_T35 l ((y + n) * cols + x):=by unfold upSrc;rw [if_pos e2,e0]
   rw [if_pos c,w64 (a:=(y + n) * cols) (by omega),w64 (a:=(y + n) * cols + x) (by omega),if_pos (by omega),if_pos (by omega),if_pos (by omega),if_pos (by rw [hp.1];omega),s35_eta,← es];exact hk'
  ·have es : upSrc l cols bottom n (y * cols + x) = cblank:=by unfold upSrc;rw [if_neg (by rw [e1];exact c)]
   rw [if_neg c,if_pos (by omega),if_pos (by rw [hp.1];omega),show (⟨32,0,0⟩ : S35) = cblank from rfl,← es];exact hk'
theorem up_outer (hs : Small rows cols) (h : Grid rows cols l) {top bottom n : Int} (ht : 0 ≤ top) (hb : bottom < rows) (hn : 0 ≤ n∧n ≤ 1000) : ∀ (m : Nat) (y : Int) (out : List S35),y + m = bottom + 1 → top ≤ y → Patch l (top * cols) (y * cols) (upSrc l cols bottom n) out →
 ∃ k out',repriseref7_Up.l0 k l cols bottom n out y = some out'∧Patch l (top * cols) (bottom * cols + cols) (upSrc l cols bottom n) out'
|0,y,out,hm,h0,hp=>by
  refine ⟨1,out,?_,?_⟩
  ·unfold repriseref7_Up.l0;rw [if_neg (by omega)]
  ·have : y = bottom + 1:=by omega
   rw [this,Int.add_mul,Int.one_mul] at hp;exact hp
|m + 1,y,out,hm,h0,hp=>by
  obtain ⟨out1,hk,hp1⟩:=up_inner hs h ht hb hn (y:=y) ⟨h0,by omega⟩ cols.toNat 0 out (by have:=hs.c0;omega) (Int.le_refl 0) (by rw [Int.add_zero];exact hp);obtain ⟨k,out',hk2,hp2⟩:=up_outer hs h ht hb hn m (y + 1) out1 (by omega) (by omega) (by rw [Int.add_mul,Int.one_mul];exact hp1);obtain ⟨k',hk'⟩:=hk k out' hk2;refine ⟨k' + 1,out',?_,hp2⟩;unfold repriseref7_Up.l0;rw [if_pos (by omega)];exact hk'
theorem up_okP (hs : Small rows cols) (h : Grid rows cols l) (top bottom n : Int) : ∃ k l',repriseref7_Up.f k l cols top bottom n = some l'∧Grid rows cols l':=by
 obtain ⟨hl1,hl2,_⟩:=len_lt hs h.len;unfold repriseref7_Up.f;by_cases c : top < 0∨bottom ≥ rows∨top > bottom
 ·refine ⟨1,l,?_,h⟩;rw [own_eq hl2,zX,grid_eq hs h.len,zX];simp only [if_true];by_cases c1 : top < 0
  ·rw [if_pos c1,show (1 : Nat) = 0 + 1 from rfl,up_j0,if_pos rfl]
  ·rw [if_neg c1];by_cases c2 : bottom ≥ rows
   ·rw [if_pos c2,show (1 : Nat) = 0 + 1 from rfl,up_j0,if_pos rfl]
   ·rw [if_neg c2,zC (by omega),show (1 : Nat) = 0 + 1 from rfl,up_j0,if_pos rfl]
 ·obtain ⟨k,out',hk,hp⟩:=up_outer hs h (top:=top) (bottom:=bottom) (by omega) (by omega) (clamp_ok (a:=n) (by decide : (0 : Int) ≤ 1000)) (bottom + 1 - top).toNat top l (by omega) (Int.le_refl _) (Patch.zero _ _ _);refine ⟨k + 1,out',?_,hp.grid hs h (by omega) (by omega) (fun y h1 h2=>?_)⟩
  ·rw [own_eq hl2,zX,grid_eq hs h.len,zX];simp only [if_true];rw [if_neg (by omega),if_neg (by omega),zD (by omega)];rw [up_j0,if_neg (by decide)];exact hk
  ·have hn:=clamp_ok (a:=n) (n:=1000) (by decide);generalize mn (mx n 0) 1000 = q at hn ⊢;by_cases c2 : y + q ≤ bottom
   ·refine .inl ⟨y + q,by omega,by omega,fun x hx0 hx1=>?_⟩;have e1:=row_lt (cols:=cols) (y1:=y + q) (y2:=bottom) ⟨hx0,hx1⟩;have e0 : (y + q) * cols + x = y * cols + x + q * cols:=by rw [Int.add_mul];omega
    unfold upSrc;rw [← e0,if_pos (e1.2 c2)]
   ·refine .inr (fun x hx0 hx1=>?_);have e1:=row_lt (cols:=cols) (y1:=y + q) (y2:=bottom) ⟨hx0,hx1⟩;have e0 : (y + q) * cols + x = y * cols + x + q * cols:=by rw [Int.add_mul];omega
    unfold upSrc;rw [← e0,if_neg (by rw [e1];exact c2)]
/-! #### Down -/
def dnSrc (l : List S35) (cols top n j : Int) : S35:=if top * cols ≤ j - n * cols then rd_T35 l (j - n * cols) else cblank
theorem row_ge {y1 y2 x : Int} (hx : 0 ≤ x∧x < cols) : (y2 * cols ≤ y1 * cols + x) ↔ y2 ≤ y1:=by
 have:=row_lt (cols:=cols) (y1:=y1) (y2:=y2 - 1) hx;rw [Int.sub_mul,Int.one_mul] at this;omega
theorem dn_inner (hs : Small rows cols) (h : Grid rows cols l) {top bottom n y : Int} (ht : 0 ≤ top) (hb : bottom < rows) (hn : 0 ≤ n∧n ≤ 1000) (hy : top ≤ y∧y ≤ bottom) : ∀ (m : Nat) (x : Int) (out : List S35),x + m = cols → 0 ≤ x → Patch l (top * cols) (y * cols + x) (dnSrc l cols top n) out →
 ∃ out',(∀ k r,repriseref7_Down.l0 k l cols top bottom n out' (y + 1) = some r → ∃ k',repriseref7_Down.l1 k' l cols top bottom n out y x = some r)∧Patch l (top * cols) (y * cols + cols) (dnSrc l cols top n) out'
|0,x,out,hm,h0,hp=>by
  refine ⟨out,fun k r hr=>⟨k + 1,?_⟩,?_⟩
  ·unfold repriseref7_Down.l1;rw [if_neg (by omega),w64 (by have:=hs.r1;omega)];exact hr
  ·have : x = cols:=by omega
   rw [this] at hp;exact hp
|m + 1,x,out,hm,h0,hp=>by
  have hx : 0 ≤ x∧x < cols:=⟨h0,by omega⟩;obtain ⟨m1,m2,m3,_⟩:=mul_rows hs (y:=y) ⟨by omega,by omega⟩;have hlen:=h.len;have htop : top * cols ≤ y * cols:=Int.mul_le_mul_of_nonneg_right hy.1 (by have:=hs.c0;omega);have ht0 : 0 ≤ top * cols:=Int.mul_nonneg ht (by have:=hs.c0;omega);obtain ⟨out',hk,hp'⟩:=dn_inner hs h ht hb hn hy m (x + 1) _ (by omega) (by omega) (by rw [show y * cols + (x + 1) = y * cols + x + 1 by omega];exact hp.step ht0 (by omega));refine ⟨out',fun k r hr=>?_,hp'⟩;obtain ⟨k',hk'⟩:=hk k r hr;refine ⟨k' + 1,?_⟩;have hcr:=hs.r1;have hcc:=hs.c1;unfold repriseref7_Down.l1;rw [if_pos hx.2,show repriseref7_blank.f = some (32,0,0) from rfl,zX,w64 (a:=y - n) (by omega),w64 (a:=y * cols) (by omega),w64 (a:=y * cols + x) (by omega),w64 (a:=x + 1) (by omega)];have e0 : (y - n) * cols + x = y * cols + x - n * cols:=by rw [Int.sub_mul];omega
  have e1:=row_ge (cols:=cols) (y1:=y - n) (y2:=top) hx;rw [e0] at e1;by_cases c : y - n ≥ top
  ·obtain ⟨n1,n2,n3,_⟩:=mul_rows hs (y:=y - n) ⟨by omega,by omega⟩;have e2:=e1.2 c;have es : dnSrc l cols top n (y * cols + x) = rd_T35 l ((y - n) * cols + x):=by unfold dnSrc;rw [if_pos e2,e0]
   rw [if_pos c,w64 (a:=(y - n) * cols) (by omega),w64 (a:=(y - n) * cols + x) (by omega),if_pos (by omega),if_pos (by omega),if_pos (by omega),if_pos (by rw [hp.1];omega),s35_eta,← es];exact hk'
  ·have es : dnSrc l cols top n (y * cols + x) = cblank:=by unfold dnSrc;rw [if_neg (by rw [e1];exact c)]
   rw [if_neg c,if_pos (by omega),if_pos (by rw [hp.1];omega),show (⟨32,0,0⟩ : S35) = cblank from rfl,← es];exact hk'
theorem dn_outer (hs : Small rows cols) (h : Grid rows cols l) {top bottom n : Int} (ht : 0 ≤ top) (hb : bottom < rows) (hn : 0 ≤ n∧n ≤ 1000) : ∀ (m : Nat) (y : Int) (out : List S35),y + m = bottom + 1 → top ≤ y → Patch l (top * cols) (y * cols) (dnSrc l cols top n) out →
 ∃ k out',repriseref7_Down.l0 k l cols top bottom n out y = some out'∧Patch l (top * cols) (bottom * cols + cols) (dnSrc l cols top n) out'
|0,y,out,hm,h0,hp=>by
  refine ⟨1,out,?_,?_⟩
  ·unfold repriseref7_Down.l0;rw [if_neg (by omega)]
  ·have : y = bottom + 1:=by omega
   rw [this,Int.add_mul,Int.one_mul] at hp;exact hp
|m + 1,y,out,hm,h0,hp=>by
  obtain ⟨out1,hk,hp1⟩:=dn_inner hs h ht hb hn (y:=y) ⟨h0,by omega⟩ cols.toNat 0 out (by have:=hs.c0;omega) (Int.le_refl 0) (by rw [Int.add_zero];exact hp);obtain ⟨k,out',hk2,hp2⟩:=dn_outer hs h ht hb hn m (y + 1) out1 (by omega) (by omega) (by rw [Int.add_mul,Int.one_mul];exact hp1);obtain ⟨k',hk'⟩:=hk k out' hk2;refine ⟨k' + 1,out',?_,hp2⟩;unfold repriseref7_Down.l0;rw [if_pos (by omega)];exact hk'
theorem down_okP (hs : Small rows cols) (h : Grid rows cols l) (top bottom n : Int) : ∃ k l',repriseref7_Down.f k l cols top bottom n = some l'∧Grid rows cols l':=by
 obtain ⟨hl1,hl2,_⟩:=len_lt hs h.len;unfold repriseref7_Down.f;by_cases c : top < 0∨bottom ≥ rows∨top > bottom
 ·refine ⟨1,l,?_,h⟩;rw [own_eq hl2,zX,grid_eq hs h.len,zX];simp only [if_true];by_cases c1 : top < 0
  ·rw [if_pos c1,show (1 : Nat) = 0 + 1 from rfl,dn_j0,if_pos rfl]
  ·rw [if_neg c1];by_cases c2 : bottom ≥ rows
   ·rw [if_pos c2,show (1 : Nat) = 0 + 1 from rfl,dn_j0,if_pos rfl]
   ·rw [if_neg c2,zC (by omega),show (1 : Nat) = 0 + 1 from rfl,dn_j0,if_pos rfl]
 ·obtain ⟨k,out',hk,hp⟩:=dn_outer hs h (top:=top) (bottom:=bottom) (by omega) (by omega) (clamp_ok (a:=n) (by decide : (0 : Int) ≤ 1000)) (bottom + 1 - top).toNat top l (by omega) (Int.le_refl _) (Patch.zero _ _ _);refine ⟨k + 1,out',?_,hp.grid hs h (by omega) (by omega) (fun y h1 h2=>?_)⟩
  ·rw [own_eq hl2,zX,grid_eq hs h.len,zX];simp only [if_true];rw [if_neg (by omega),if_neg (by omega),zD (by omega)];rw [dn_j0,if_neg (by decide)];exact hk
  ·have hn:=clamp_ok (a:=n) (n:=1000) (by decide);generalize mn (mx n 0) 1000 = q at hn ⊢;by_cases c2 : top ≤ y - q
   ·refine .inl ⟨y - q,by omega,by omega,fun x hx0 hx1=>?_⟩;have e1:=row_ge (cols:=cols) (y1:=y - q) (y2:=top) ⟨hx0,hx1⟩;have e0 : (y - q) * cols + x = y * cols + x - q * cols:=by rw [Int.sub_mul];omega
    unfold dnSrc;rw [← e0,if_pos (e1.2 c2)]
   ·refine .inr (fun x hx0 hx1=>?_);have e1:=row_ge (cols:=cols) (y1:=y - q) (y2:=top) ⟨hx0,hx1⟩;have e0 : (y - q) * cols + x = y * cols + x - q * cols:=by rw [Int.sub_mul];omega
    unfold dnSrc;rw [← e0,if_neg (by rw [e1];exact c2)]
end
end Go.Proofs.Ytooageeehallbaa.Scr
namespace Go.Proofs.Ytooageeehallbaa.Scr
open Go.RowKit Go.Proofs.YtooageeehallbaaW.PrintWords Go.Proofs.YtooageeehallbaaW.PrintLast Go.Proofs.YtooageeehallbaaW.PrintMore Go.Proofs.Ytooageeehallbaa.QRunsCut
set_option linter.unusedVariables false
section
variable {rows cols : Int} {l : List S35}
theorem gridbut_set {y : Int} (hs : Small rows cols) (hy : 0 ≤ y∧y < rows) (h : GridBut rows cols y l) {x : Int} (hx : 0 ≤ x∧x < cols) {c : S35} (hc : CellOk c) : GridBut rows cols y (l.set (y * cols + x).toNat c):=by
 obtain ⟨m1,m2,_,_⟩:=mul_rows hs hy;have hlen:=h.len;refine ⟨by rw [List.length_set];exact hlen,mem_rd (fun j h0 h1=>?_),fun y' h0 h1 hne=>row_copy (fun x' h2 h3=>?_) (h.whole y' h0 h1 hne)⟩
 ·rw [List.length_set] at h1;rw [rd_set (by omega) h0 h1];split
  ·exact hc
  ·exact rd_mem h.ok h0 h1
 ·obtain ⟨n1,n2,_,_⟩:=mul_rows hs ⟨h0,h1⟩;have e1:=row_lt (cols:=cols) (y1:=y') (y2:=y) ⟨h2,h3⟩;have e2:=row_ge (cols:=cols) (y1:=y') (y2:=y) ⟨h2,h3⟩;rw [rd_set (by omega) (by omega) (by omega),if_neg (by omega)]
/-! #### Mend -/
def Mbad (l : List S35) (cols y x : Int) : Prop:=((rd_T35 l (y * cols + x)).f2 = 1∧(x = cols - 1∨(rd_T35 l (y * cols + x + 1)).f2 ≠ 2))∨((rd_T35 l (y * cols + x)).f2 = 2∧(x = 0∨(rd_T35 l (y * cols + x - 1)).f2 ≠ 1))
instance (l : List S35) (cols y x : Int) : Decidable (Mbad l cols y x):=by unfold Mbad;infer_instance
def mendSrc (l : List S35) (cols y j : Int) : S35:=if Mbad l cols y (j - y * cols) then cblank else rd_T35 l j
theorem mend_step (hs : Small rows cols) (hlen : (l.length : Int) = rows * cols) {y x : Int} (hy : 0 ≤ y∧y < rows) (hx : 0 ≤ x∧x < cols) (k : Nat) (out : List S35) (ho : out.length = l.length) :
 repriseref7_Mend.l0 (k + 1) l cols y out x = repriseref7_Mend.l0 k l cols y (if Mbad l cols y x then out.set (y * cols + x).toNat cblank else out) (x + 1):=by
 obtain ⟨m1,m2,m3,_⟩:=mul_rows hs hy;have hc1:=hs.c1;have w1 : wrap64 (y * cols) = y * cols:=w64 (by omega);have w2 : wrap64 (y * cols + x) = y * cols + x:=w64 (by omega);have w3 : wrap64 (y * cols + x + 1) = y * cols + x + 1:=w64 (by omega);have w4 : wrap64 (y * cols + x - 1) = y * cols + x - 1:=w64 (by omega);have w5 : wrap64 (cols - 1) = cols - 1:=w64 (by omega);have w6 : wrap64 (x + 1) = x + 1:=w64 (by omega);rw [repriseref7_Mend.l0];simp only [w1,w2,w3,w4,w5,w6,show repriseref7_blank.f = some (32,0,0) from rfl,zX,show (⟨32,0,0⟩ : S35) = cblank from rfl];rw [if_pos hx.2,if_pos (by omega),if_pos (by omega)];by_cases c1 : (rd_T35 l (y * cols + x)).f2 = 1
 ·rw [if_pos c1];by_cases c2 : x = cols - 1
  ·rw [if_pos c2,if_pos (by rw [ho];omega),if_pos (show Mbad l cols y x from .inl ⟨c1,.inl c2⟩)]
  ·rw [if_neg c2,if_pos (by omega),if_pos (by omega)];by_cases c3 : (rd_T35 l (y * cols + x + 1)).f2 = 2
   ·rw [if_pos c3,if_neg (by omega),if_neg (show ¬ Mbad l cols y x from by rintro (⟨_,h|h⟩|⟨h,_⟩) <;> omega)]
   ·rw [if_neg c3,if_pos (by rw [ho];omega),if_pos (show Mbad l cols y x from .inl ⟨c1,.inr c3⟩)]
 ·rw [if_neg c1];by_cases c2 : (rd_T35 l (y * cols + x)).f2 = 2
  ·rw [if_pos c2];by_cases c3 : x = 0
   ·rw [if_pos c3,if_pos (by rw [ho];omega),if_pos (show Mbad l cols y x from .inr ⟨c2,.inl c3⟩)]
   ·rw [if_neg c3,if_pos (by omega),if_pos (by omega)];by_cases c4 : (rd_T35 l (y * cols + x - 1)).f2 = 1
    ·rw [if_pos c4,if_neg (show ¬ Mbad l cols y x from by rintro (⟨h,_⟩|⟨_,h|h⟩) <;> omega)]
    ·rw [if_neg c4,if_pos (by rw [ho];omega),if_pos (show Mbad l cols y x from .inr ⟨c2,.inr c4⟩)]
  ·rw [if_neg c2,if_neg (show ¬ Mbad l cols y x from by rintro (⟨h,_⟩|⟨h,_⟩) <;> omega)]
theorem mend_run (hs : Small rows cols) (hlen : (l.length : Int) = rows * cols) {y : Int} (hy : 0 ≤ y∧y < rows) : ∀ (m : Nat) (x : Int) (out : List S35),x + m = cols → 0 ≤ x → Patch l (y * cols) (y * cols + x) (mendSrc l cols y) out →
 ∃ k out',repriseref7_Mend.l0 k l cols y out x = some out'∧Patch l (y * cols) (y * cols + cols) (mendSrc l cols y) out'
|0,x,out,hm,h0,hp=>by
  refine ⟨1,out,?_,?_⟩
  ·rw [repriseref7_Mend.l0,if_neg (by omega)]
  ·have : x = cols:=by omega
   rw [this] at hp;exact hp
|m + 1,x,out,hm,h0,hp=>by
  obtain ⟨m1,m2,m3,_⟩:=mul_rows hs hy;have hp2 : Patch l (y * cols) (y * cols + (x + 1)) (mendSrc l cols y) (if Mbad l cols y x then out.set (y * cols + x).toNat cblank else out):=by
   rw [show y * cols + (x + 1) = y * cols + x + 1 by omega];have e : y * cols + x - y * cols = x:=by omega
   by_cases c : Mbad l cols y x
   ·have es : mendSrc l cols y (y * cols + x) = cblank:=by unfold mendSrc;rw [e,if_pos c]
    rw [if_pos c,← es];exact hp.step m1 (by omega)
   ·rw [if_neg c];exact hp.keep (fun _ _=>by unfold mendSrc;rw [e,if_neg c])
  obtain ⟨k,out',hk,hp3⟩:=mend_run hs hlen hy m (x + 1) _ (by omega) (by omega) hp2;exact ⟨k + 1,out',by rw [mend_step hs hlen hy ⟨h0,by omega⟩ k out hp.1];exact hk,hp3⟩
theorem mend_okP (hs : Small rows cols) {y : Int} (hy : 0 ≤ y∧y < rows) (h : GridBut rows cols y l) : ∃ k l',repriseref7_Mend.f k l cols y = some l'∧Grid rows cols l':=by
 obtain ⟨hl1,hl2,_⟩:=len_lt hs h.len;obtain ⟨m1,m2,m3,_⟩:=mul_rows hs hy;have hlen:=h.len;obtain ⟨k,out',hk,hp⟩:=mend_run hs h.len hy cols.toNat 0 l (by have:=hs.c0;omega) (Int.le_refl 0) (by rw [Int.add_zero];exact Patch.zero _ _ _);have hrow : ∀ x,0 ≤ x → x < cols → rd_T35 out' (y * cols + x) = if Mbad l cols y x then cblank else rd_T35 l (y * cols + x):=by
  intro x h0 h1;rw [hp.2 _ (by omega) (by omega),if_pos (by omega)];unfold mendSrc;rw [show y * cols + x - y * cols = x by omega]
 refine ⟨k,out',?_,by rw [hp.1];exact hlen,?_,fun y' h0 h1 _=>?_⟩
 ·unfold repriseref7_Mend.f;rw [own_eq hl2,zX,place_eq hs h.len,zX,zC ⟨hy.1,hy.2,Int.le_refl 0,by have:=hs.c0;omega⟩,if_pos rfl];exact hk
 ·refine hp.ok h.ok (fun j _ _ h0 h1=>?_);unfold mendSrc;split
  ·exact CellOk.blank
  ·exact rd_mem h.ok h0 h1
 ·by_cases hyy : y' = y
  ·subst hyy;have hz : cblank.f2 = 0:=rfl;intro x hx0 hx1;rw [hrow x hx0 hx1];by_cases c : Mbad l cols y' x
   ·rw [if_pos c,hz];exact ⟨fun e=>absurd e (by decide),fun e=>absurd e (by decide)⟩
   ·rw [if_neg c];refine ⟨fun e=>?_,fun e=>?_⟩
    ·have hx2 : x ≠ cols - 1:=fun e2=>c (.inl ⟨e,.inl e2⟩)
     have hf : (rd_T35 l (y' * cols + x + 1)).f2 = 2:=Classical.byContradiction fun e2=>c (.inl ⟨e,.inr e2⟩)
     refine ⟨by omega,?_⟩;rw [show y' * cols + x + 1 = y' * cols + (x + 1) by omega] at hf ⊢;rw [hrow (x + 1) (by omega) (by omega),if_neg]
     ·exact hf
     ·rintro (⟨h3,_⟩|⟨_,h3|h3⟩)
      ·omega
      ·omega
      ·rw [show y' * cols + (x + 1) - 1 = y' * cols + x by omega] at h3;exact h3 e
    ·have hx2 : x ≠ 0:=fun e2=>c (.inr ⟨e,.inl e2⟩)
     have hf : (rd_T35 l (y' * cols + x - 1)).f2 = 1:=Classical.byContradiction fun e2=>c (.inr ⟨e,.inr e2⟩)
     refine ⟨by omega,?_⟩;rw [show y' * cols + x - 1 = y' * cols + (x - 1) by omega] at hf ⊢;rw [hrow (x - 1) (by omega) (by omega),if_neg]
     ·exact hf
     ·rintro (⟨_,h3|h3⟩|⟨h3,_⟩)
      ·omega
      ·rw [show y' * cols + (x - 1) + 1 = y' * cols + x by omega] at h3;exact h3 e
      ·omega
  ·refine row_copy (fun x h2 h3=>?_) (h.whole y' h0 h1 hyy);obtain ⟨n1,n2,_,_⟩:=mul_rows hs ⟨h0,h1⟩;have e1:=row_lt (cols:=cols) (y1:=y') (y2:=y) ⟨h2,h3⟩;have e2:=row_ge (cols:=cols) (y1:=y') (y2:=y) ⟨h2,h3⟩;rw [hp.2 _ (by omega) (by omega),if_neg (by omega)]
/-! #### Insert,Delete,Erase -/
def insSrc (l : List S35) (cols y x n j : Int) : S35:=if x ≤ j - y * cols - n then rd_T35 l (j - n) else cblank
theorem ins_run (hs : Small rows cols) (h : Grid rows cols l) {y x n : Int} (hy : 0 ≤ y∧y < rows) (hx : 0 ≤ x∧x ≤ cols) (hn : 0 ≤ n∧n ≤ 1000) : ∀ (m : Nat) (i : Int) (out : List S35),i + m = cols → x ≤ i → Patch l (y * cols + x) (y * cols + i) (insSrc l cols y x n) out →
 ∃ k l',repriseref7_Insert.l0 k l cols y x n out i = some l'∧Grid rows cols l'
|0,i,out,hm,h0,hp=>by
  have hic : i = cols:=by omega
  subst hic;obtain ⟨m1,m2,m3,_⟩:=mul_rows hs hy;have hb : GridBut rows i y out:=hp.but hs h hy (by omega) (by omega) (fun j h1 h2 h3 h4=>by
   unfold insSrc;split
   ·exact rd_mem h.ok (by omega) (by omega)
   ·exact CellOk.blank)
  obtain ⟨k,l',hk,hg⟩:=mend_okP hs hy hb;refine ⟨k + 1,l',?_,hg⟩;rw [repriseref7_Insert.l0,if_neg (by omega),hk];rfl
|m + 1,i,out,hm,h0,hp=>by
  obtain ⟨m1,m2,m3,_⟩:=mul_rows hs hy;have hlen:=h.len;have hc1:=hs.c1;obtain ⟨k,l',hk,hg⟩:=ins_run hs h hy hx hn m (i + 1) _ (by omega) (by omega) (by rw [show y * cols + (i + 1) = y * cols + i + 1 by omega];exact hp.step (by omega) (by omega));refine ⟨k + 1,l',?_,hg⟩;rw [repriseref7_Insert.l0,if_pos (by omega),show repriseref7_blank.f = some (32,0,0) from rfl,zX,w64 (a:=i - n) (by omega),w64 (a:=y * cols) (by omega),w64 (a:=y * cols + i) (by omega),w64 (a:=y * cols + i - n) (by omega),w64 (a:=i + 1) (by omega)];by_cases c : i - n ≥ x
  ·have es : insSrc l cols y x n (y * cols + i) = rd_T35 l (y * cols + i - n):=by unfold insSrc;rw [if_pos (by omega)]
   rw [if_pos c,if_pos (by omega),if_pos (by omega),if_pos (by omega),if_pos (by rw [hp.1];omega),s35_eta,← es];exact hk
  ·have es : insSrc l cols y x n (y * cols + i) = cblank:=by unfold insSrc;rw [if_neg (by omega)]
   rw [if_neg c,if_pos (by omega),if_pos (by rw [hp.1];omega),show (⟨32,0,0⟩ : S35) = cblank from rfl,← es];exact hk
theorem ins_okP (hs : Small rows cols) (h : Grid rows cols l) (y x n : Int) : ∃ k l',repriseref7_Insert.f k l cols y x n = some l'∧Grid rows cols l':=by
 obtain ⟨hl1,hl2,_⟩:=len_lt hs h.len;by_cases c : 0 ≤ y∧y < rows∧0 ≤ x∧x ≤ cols
 ·obtain ⟨k,l',hk,hg⟩:=ins_run hs h (y:=y) (x:=x) ⟨c.1,c.2.1⟩ ⟨c.2.2.1,c.2.2.2⟩ (clamp_ok (a:=n) (by decide : (0 : Int) ≤ 1000)) (cols - x).toNat x l (by omega) (Int.le_refl _) (Patch.zero _ _ _);refine ⟨k,l',?_,hg⟩;unfold repriseref7_Insert.f;rw [own_eq hl2,zX,place_eq hs h.len,zX,zC c,if_pos rfl];exact hk
 ·refine ⟨0,l,?_,h⟩;unfold repriseref7_Insert.f;rw [own_eq hl2,zX,place_eq hs h.len,zX,zD c,if_neg (by decide)]
def delSrc (l : List S35) (cols y n j : Int) : S35:=if j - y * cols + n < cols then rd_T35 l (j + n) else cblank
theorem del_run (hs : Small rows cols) (h : Grid rows cols l) {y x n : Int} (hy : 0 ≤ y∧y < rows) (hx : 0 ≤ x∧x ≤ cols) (hn : 0 ≤ n∧n ≤ 1000) : ∀ (m : Nat) (i : Int) (out : List S35),i + m = cols → x ≤ i → Patch l (y * cols + x) (y * cols + i) (delSrc l cols y n) out →
 ∃ k l',repriseref7_Delete.l0 k l cols y n out i = some l'∧Grid rows cols l'
|0,i,out,hm,h0,hp=>by
  have hic : i = cols:=by omega
  subst hic;obtain ⟨m1,m2,m3,_⟩:=mul_rows hs hy;have hlen:=h.len;have hb : GridBut rows i y out:=hp.but hs h hy (by omega) (by omega) (fun j h1 h2 h3 h4=>by
   unfold delSrc;split
   ·exact rd_mem h.ok (by omega) (by omega)
   ·exact CellOk.blank)
  obtain ⟨k,l',hk,hg⟩:=mend_okP hs hy hb;refine ⟨k + 1,l',?_,hg⟩;rw [repriseref7_Delete.l0,if_neg (by omega),hk];rfl
|m + 1,i,out,hm,h0,hp=>by
  obtain ⟨m1,m2,m3,_⟩:=mul_rows hs hy;have hlen:=h.len;have hc1:=hs.c1;obtain ⟨k,l',hk,hg⟩:=del_run hs h hy hx hn m (i + 1) _ (by omega) (by omega) (by rw [show y * cols + (i + 1) = y * cols + i + 1 by omega];exact hp.step (by omega) (by omega));refine ⟨k + 1,l',?_,hg⟩;rw [repriseref7_Delete.l0,if_pos (by omega),show repriseref7_blank.f = some (32,0,0) from rfl,zX,w64 (a:=i + n) (by omega),w64 (a:=y * cols) (by omega),w64 (a:=y * cols + i) (by omega),w64 (a:=y * cols + i + n) (by omega),w64 (a:=i + 1) (by omega)];by_cases c : i + n < cols
  ·have es : delSrc l cols y n (y * cols + i) = rd_T35 l (y * cols + i + n):=by unfold delSrc;rw [if_pos (by omega)]
   rw [if_pos c,if_pos (by omega),if_pos (by omega),if_pos (by omega),if_pos (by rw [hp.1];omega),s35_eta,← es];exact hk
  ·have es : delSrc l cols y n (y * cols + i) = cblank:=by unfold delSrc;rw [if_neg (by omega)]
   rw [if_neg c,if_pos (by omega),if_pos (by rw [hp.1];omega),show (⟨32,0,0⟩ : S35) = cblank from rfl,← es];exact hk
theorem del_okP (hs : Small rows cols) (h : Grid rows cols l) (y x n : Int) : ∃ k l',repriseref7_Delete.f k l cols y x n = some l'∧Grid rows cols l':=by
 obtain ⟨hl1,hl2,_⟩:=len_lt hs h.len;by_cases c : 0 ≤ y∧y < rows∧0 ≤ x∧x ≤ cols
 ·obtain ⟨k,l',hk,hg⟩:=del_run hs h (y:=y) (x:=x) ⟨c.1,c.2.1⟩ ⟨c.2.2.1,c.2.2.2⟩ (clamp_ok (a:=n) (by decide : (0 : Int) ≤ 1000)) (cols - x).toNat x l (by omega) (Int.le_refl _) (Patch.zero _ _ _);refine ⟨k,l',?_,hg⟩;unfold repriseref7_Delete.f;rw [own_eq hl2,zX,place_eq hs h.len,zX,zC c,if_pos rfl];exact hk
 ·refine ⟨0,l,?_,h⟩;unfold repriseref7_Delete.f;rw [own_eq hl2,zX,place_eq hs h.len,zX,zD c,if_neg (by decide)]
theorem era_run (hs : Small rows cols) (h : Grid rows cols l) {y a b : Int} (hy : 0 ≤ y∧y < rows) (ha : 0 ≤ a) (hb : b ≤ cols) : ∀ (m : Nat) (i : Int) (out : List S35),b ≤ i + m → a ≤ i → i ≤ cols → Patch l (y * cols + a) (y * cols + i) (fun _=>cblank) out →
 ∃ k l',repriseref7_Erase.l0 k cols y b out i = some l'∧Grid rows cols l'
|0,i,out,hm,h0,hi,hp=>by
  have hbb : GridBut rows cols y out:=hp.but hs h hy (by omega) (by omega) (fun _ _ _ _ _=>CellOk.blank);obtain ⟨k,l',hk,hg⟩:=mend_okP hs hy hbb;refine ⟨k + 1,l',?_,hg⟩;rw [repriseref7_Erase.l0,if_neg (by omega),hk];rfl
|m + 1,i,out,hm,h0,hi,hp=>by
  by_cases c : i < b
  ·obtain ⟨m1,m2,m3,_⟩:=mul_rows hs hy;have hlen:=h.len;have hc1:=hs.c1;obtain ⟨k,l',hk,hg⟩:=era_run hs h hy ha hb m (i + 1) _ (by omega) (by omega) (by omega) (by rw [show y * cols + (i + 1) = y * cols + i + 1 by omega];exact hp.step (by omega) (by omega));refine ⟨k + 1,l',?_,hg⟩;rw [repriseref7_Erase.l0,if_pos c,show repriseref7_blank.f = some (32,0,0) from rfl,zX,w64 (a:=y * cols) (by omega),w64 (a:=y * cols + i) (by omega),w64 (a:=i + 1) (by omega),if_pos (by omega),if_pos (by rw [hp.1];omega)];exact hk
  ·have hbb : GridBut rows cols y out:=hp.but hs h hy (by omega) (by omega) (fun _ _ _ _ _=>CellOk.blank);obtain ⟨k,l',hk,hg⟩:=mend_okP hs hy hbb;refine ⟨k + 1,l',?_,hg⟩;rw [repriseref7_Erase.l0,if_neg c,hk];rfl
theorem era_okP (hs : Small rows cols) (h : Grid rows cols l) (y a b : Int) : ∃ k l',repriseref7_Erase.f k l cols y a b = some l'∧Grid rows cols l':=by
 obtain ⟨hl1,hl2,_⟩:=len_lt hs h.len;have hc0:=hs.c0;by_cases c : 0 ≤ y∧y < rows∧(0 : Int) ≤ 0∧0 ≤ cols
 ·have ha:=clamp_ok (a:=a) (n:=cols) (by omega);have hb:=clamp_ok (a:=b) (n:=cols) (by omega);obtain ⟨k,l',hk,hg⟩:=era_run hs h (y:=y) (a:=mn (mx a 0) cols) (b:=mn (mx b 0) cols) ⟨c.1,c.2.1⟩ ha.1 hb.2 cols.toNat _ l (by omega) (Int.le_refl _) ha.2 (Patch.zero _ _ _);refine ⟨k,l',?_,hg⟩;unfold repriseref7_Erase.f;rw [own_eq hl2,zX,place_eq hs h.len,zX,zC c,if_pos rfl];exact hk
 ·refine ⟨0,l,?_,h⟩;unfold repriseref7_Erase.f;rw [own_eq hl2,zX,place_eq hs h.len,zX,zD c,if_neg (by decide)]
end
end Go.Proofs.Ytooageeehallbaa.Scr
namespace Go.Proofs.Ytooageeehallbaa.Scr
open Go.RowKit Go.Proofs.YtooageeehallbaaW.PrintWords Go.Proofs.YtooageeehallbaaW.PrintLast Go.Proofs.YtooageeehallbaaW.PrintMore Go.Proofs.Ytooageeehallbaa.QRunsCut
set_option linter.unusedVariables false
/-! #### a rune's width -/
theorem width_j0 (k : Nat) (r : Int) (b : Bool) : repriseref1_Width.j0 (k + 1) r b = if b = true then (some 0) else (repriseref1_Width.l0 k r (([4352,4447,11904,12350,12353,13311,13312,19903,19968,40959,40960,42191,44032,55203,63744,64255,65072,65135,65280,65376,65504,65510,127744,128591,129280,129535,131072,196605,196608,262141] : List Int)) 0):=by rw [repriseref1_Width.j0]
theorem in_eq (a b c : Int) : ∃ t,repriseref1_in.f a b c = some t:=by
 unfold repriseref1_in.f;split
 ·exact ⟨_,rfl⟩
 ·exact ⟨_,rfl⟩
theorem width_run (r : Int) (L : List Int) (hL : L.length < 1000) (hev : L.length % 2 = 0) : ∀ (m : Nat) (i : Nat),i + 2 * m = L.length → ∃ k w,repriseref1_Width.l0 k r L (i : Int) = some w∧(w = 1∨w = 2)
|0,i,hm=>by
  refine ⟨1,1,?_,.inl rfl⟩;rw [repriseref1_Width.l0,if_neg (by omega)]
|m + 1,i,hm=>by
  obtain ⟨k,w,hk,hw⟩:=width_run r L hL hev m (i + 2) (by omega);obtain ⟨t,ht⟩:=in_eq r (rd L (i : Int)) (rd L (wrap64 ((i : Int) + 1)));by_cases c : t = true
  ·refine ⟨k + 1,2,?_,.inr rfl⟩;rw [repriseref1_Width.l0,if_pos (by omega),if_pos (by omega),if_pos (by rw [w64 (by omega)];omega),if_pos (by rw [w64 (by omega)];omega),ht,zX,if_pos c]
  ·refine ⟨k + 1,w,?_,hw⟩;rw [repriseref1_Width.l0,if_pos (by omega),if_pos (by omega),if_pos (by rw [w64 (by omega)];omega),if_pos (by rw [w64 (by omega)];omega),ht,zX,if_neg c,w64 (a:=(i : Int) + 2) (by omega)];exact hk
theorem width_okP {r : Int} (h : RuneOk r) : ∃ k w,repriseref1_Width.f k r = some w∧(w = 0∨(w = 1∨w = 2)∧r ≠ 0):=by
 have zero : ∀ b,b = true → repriseref1_Width.j0 1 r b = some 0:=by
  intro b hb;rw [show (1 : Nat) = 0 + 1 from rfl,width_j0,if_pos hb]
 obtain ⟨t,ht⟩ : ∃ t,repriseref1_May.f r = some t:=by
  unfold repriseref1_May.f;repeat' split
  all_goals exact ⟨_,rfl⟩
 obtain ⟨t1,h1⟩:=in_eq r 127 159;obtain ⟨t2,h2⟩:=in_eq r 768 879;obtain ⟨t3,h3⟩:=in_eq r 8203 8207;obtain ⟨t4,h4⟩:=in_eq r 65024 65039;by_cases c0 : t = true
 ·by_cases cl : r < 32
  ·refine ⟨1,0,?_,.inl rfl⟩;unfold repriseref1_Width.f;rw [ht,zX,if_pos c0,if_pos cl,zero _ rfl]
  ·by_cases c1 : t1 = true
   ·refine ⟨1,0,?_,.inl rfl⟩;unfold repriseref1_Width.f;rw [ht,zX,if_pos c0,if_neg cl,h1,zX,if_pos c1,zero _ rfl]
   ·by_cases c2 : t2 = true
    ·refine ⟨1,0,?_,.inl rfl⟩;unfold repriseref1_Width.f;rw [ht,zX,if_pos c0,if_neg cl,h1,zX,if_neg c1,h2,zX,if_pos c2,zero _ rfl]
    ·by_cases c3 : t3 = true
     ·refine ⟨1,0,?_,.inl rfl⟩;unfold repriseref1_Width.f;rw [ht,zX,if_pos c0,if_neg cl,h1,zX,if_neg c1,h2,zX,if_neg c2,h3,zX,if_pos c3,zero _ rfl]
     ·by_cases c4 : t4 = true
      ·refine ⟨1,0,?_,.inl rfl⟩;unfold repriseref1_Width.f;rw [ht,zX,if_pos c0,if_neg cl,h1,zX,if_neg c1,h2,zX,if_neg c2,h3,zX,if_neg c3,h4,zX,zero _ c4]
      ·obtain ⟨k,w,hk,hw⟩:=width_run r _ (by decide : ([4352,4447,11904,12350,12353,13311,13312,19903,19968,40959,40960,42191,44032,55203,63744,64255,65072,65135,65280,65376,65504,65510,127744,128591,129280,129535,131072,196605,196608,262141] : List Int).length < 1000) (by decide) 15 0 (by decide);refine ⟨k + 1,w,?_,.inr ⟨hw,by omega⟩⟩;unfold repriseref1_Width.f;rw [ht,zX,if_pos c0,if_neg cl,h1,zX,if_neg c1,h2,zX,if_neg c2,h3,zX,if_neg c3,h4,zX,width_j0,if_neg c4];exact hk
 ·refine ⟨1,0,?_,.inl rfl⟩;unfold repriseref1_Width.f;rw [ht,zX,if_neg c0,zero _ rfl]
end Go.Proofs.Ytooageeehallbaa.Scr
namespace Go.Proofs.Ytooageeehallbaa.Scr
open Go.RowKit Go.Proofs.YtooageeehallbaaW.PrintWords Go.Proofs.YtooageeehallbaaW.PrintLast Go.Proofs.YtooageeehallbaaW.PrintMore Go.Proofs.Ytooageeehallbaa.QRunsCut
set_option linter.unusedVariables false
def attrB (a : Int) : Bool:=decide (0 ≤ a) && decide (a < 4096) && decide (a / 8 % 2 = 0) && decide (a / 16 % 16 ≤ 8) && decide (a / 256 ≤ 8)
theorem attrB_iff (a : Int) : attrB a = true ↔ AttrOk a:=by
 unfold attrB AttrOk;simp only [Bool.and_eq_true,decide_eq_true_eq];constructor
 ·rintro ⟨⟨⟨⟨a,b⟩,c⟩,d⟩,e⟩
  exact ⟨a,b,c,d,e⟩
 ·rintro ⟨a,b,c,d,e⟩
  exact ⟨⟨⟨⟨a,b⟩,c⟩,d⟩,e⟩
theorem attr_all (f : Int → Int) (h : ((List.range 4096).all fun n=>!attrB (n : Int) || attrB (f (n : Int))) = true) {a : Int} (ha : AttrOk a) : AttrOk (f a):=by
 obtain ⟨n,rfl⟩:=Int.eq_ofNat_of_zero_le ha.1;have hn:=List.all_eq_true.1 h n (List.mem_range.2 (by have:=ha.2.1;omega));rw [Bool.or_eq_true] at hn;rcases hn with hn|hn
 ·rw [(attrB_iff _).2 ha] at hn;cases hn
 ·exact (attrB_iff _).1 hn
theorem look_j0 (k : Nat) (a c : Int) (b : Bool) : repriseref7_look.j0 (k + 1) a c b = if b = true then (some (Go.bits .or .u16 (Go.bits .andNot .u16 a 240) (IntKind.u16.wrap ((IntKind.u16.wrap (wrap64 (c - 29))) * 16)))) else (if c = 39 then (some (Go.bits .andNot .u16 a 240)) else (if c ≥ 40 then (repriseref7_look.j1 k a c (decide (c ≤ 47))) else (repriseref7_look.j1 k a c false))):=by rw [repriseref7_look.j0]
theorem look_j1 (k : Nat) (a c : Int) (b : Bool) : repriseref7_look.j1 (k + 1) a c b = if b = true then (some (Go.bits .or .u16 (Go.bits .andNot .u16 a 3840) (IntKind.u16.wrap ((IntKind.u16.wrap (wrap64 (c - 39))) * 256)))) else (if c = 49 then (some (Go.bits .andNot .u16 a 3840)) else (some a)):=by rw [repriseref7_look.j1]
set_option maxRecDepth 100000 in
theorem or1 {a : Int} (h : AttrOk a) : AttrOk (Go.bits .or .u16 a 1):=attr_all (fun a=>Go.bits .or .u16 a 1) (by decide +kernel) h
theorem or2 {a : Int} (h : AttrOk a) : AttrOk (Go.bits .or .u16 a 2):=attr_all (fun a=>Go.bits .or .u16 a 2) (by decide +kernel) h
theorem or4 {a : Int} (h : AttrOk a) : AttrOk (Go.bits .or .u16 a 4):=attr_all (fun a=>Go.bits .or .u16 a 4) (by decide +kernel) h
theorem an1 {a : Int} (h : AttrOk a) : AttrOk (Go.bits .andNot .u16 a 1):=attr_all (fun a=>Go.bits .andNot .u16 a 1) (by decide +kernel) h
theorem an2 {a : Int} (h : AttrOk a) : AttrOk (Go.bits .andNot .u16 a 2):=attr_all (fun a=>Go.bits .andNot .u16 a 2) (by decide +kernel) h
theorem an4 {a : Int} (h : AttrOk a) : AttrOk (Go.bits .andNot .u16 a 4):=attr_all (fun a=>Go.bits .andNot .u16 a 4) (by decide +kernel) h
theorem an240 {a : Int} (h : AttrOk a) : AttrOk (Go.bits .andNot .u16 a 240):=attr_all (fun a=>Go.bits .andNot .u16 a 240) (by decide +kernel) h
theorem an3840 {a : Int} (h : AttrOk a) : AttrOk (Go.bits .andNot .u16 a 3840):=attr_all (fun a=>Go.bits .andNot .u16 a 3840) (by decide +kernel) h
theorem fore {a c : Int} (h : AttrOk a) (h0 : 30 ≤ c) (h1 : c ≤ 37) : AttrOk (Go.bits .or .u16 (Go.bits .andNot .u16 a 240) (IntKind.u16.wrap ((IntKind.u16.wrap (wrap64 (c - 29))) * 16))):=by
 have e : c = 30∨c = 31∨c = 32∨c = 33∨c = 34∨c = 35∨c = 36∨c = 37:=by omega
 rcases e with rfl|rfl|rfl|rfl|rfl|rfl|rfl|rfl <;> exact attr_all (fun a=>Go.bits .or .u16 (Go.bits .andNot .u16 a 240) (IntKind.u16.wrap ((IntKind.u16.wrap (wrap64 (_ - 29))) * 16))) (by decide +kernel) h
theorem back {a c : Int} (h : AttrOk a) (h0 : 40 ≤ c) (h1 : c ≤ 47) : AttrOk (Go.bits .or .u16 (Go.bits .andNot .u16 a 3840) (IntKind.u16.wrap ((IntKind.u16.wrap (wrap64 (c - 39))) * 256))):=by
 have e : c = 40∨c = 41∨c = 42∨c = 43∨c = 44∨c = 45∨c = 46∨c = 47:=by omega
 rcases e with rfl|rfl|rfl|rfl|rfl|rfl|rfl|rfl <;> exact attr_all (fun a=>Go.bits .or .u16 (Go.bits .andNot .u16 a 3840) (IntKind.u16.wrap ((IntKind.u16.wrap (wrap64 (_ - 39))) * 256))) (by decide +kernel) h
theorem look_okP {a : Int} (h : AttrOk a) (c : Int) : ∃ n a',repriseref7_look.f n a c = some a'∧AttrOk a':=by
 have j1 : ∀ b,(b = true → 40 ≤ c∧c ≤ 47) → ∃ a',repriseref7_look.j1 1 a c b = some a'∧AttrOk a':=by
  intro b hb;rw [show (1 : Nat) = 0 + 1 from rfl,look_j1];by_cases c1 : b = true
  ·rw [if_pos c1];exact ⟨_,rfl,back h (hb c1).1 (hb c1).2⟩
  ·rw [if_neg c1];by_cases c2 : c = 49
   ·rw [if_pos c2];exact ⟨_,rfl,an3840 h⟩
   ·rw [if_neg c2];exact ⟨_,rfl,h⟩
 have j0 : ∀ b,(b = true → 30 ≤ c∧c ≤ 37) → ∃ a',repriseref7_look.j0 2 a c b = some a'∧AttrOk a':=by
  intro b hb;rw [show (2 : Nat) = 1 + 1 from rfl,look_j0];by_cases c1 : b = true
  ·rw [if_pos c1];exact ⟨_,rfl,fore h (hb c1).1 (hb c1).2⟩
  ·rw [if_neg c1];by_cases c2 : c = 39
   ·rw [if_pos c2];exact ⟨_,rfl,an240 h⟩
   ·rw [if_neg c2];by_cases c3 : c ≥ 40
    ·rw [if_pos c3];exact j1 _ (fun e=>⟨c3,of_decide_eq_true e⟩)
    ·rw [if_neg c3];exact j1 _ (fun e=>by cases e)
 refine ⟨2,?_⟩;unfold repriseref7_look.f;by_cases c1 : c = 0
 ·rw [if_pos c1];exact ⟨_,rfl,attr0⟩
 rw [if_neg c1];by_cases c2 : c = 1
 ·rw [if_pos c2];exact ⟨_,rfl,or1 h⟩
 rw [if_neg c2];by_cases c3 : c = 4
 ·rw [if_pos c3];exact ⟨_,rfl,or2 h⟩
 rw [if_neg c3];by_cases c4 : c = 7
 ·rw [if_pos c4];exact ⟨_,rfl,or4 h⟩
 rw [if_neg c4];by_cases c5 : c = 22
 ·rw [if_pos c5];exact ⟨_,rfl,an1 h⟩
 rw [if_neg c5];by_cases c6 : c = 24
 ·rw [if_pos c6];exact ⟨_,rfl,an2 h⟩
 rw [if_neg c6];by_cases c7 : c = 27
 ·rw [if_pos c7];exact ⟨_,rfl,an4 h⟩
 rw [if_neg c7];by_cases c8 : c ≥ 30
 ·rw [if_pos c8];exact j0 _ (fun e=>⟨c8,of_decide_eq_true e⟩)
 ·rw [if_neg c8];exact j0 _ (fun e=>by cases e)
end Go.Proofs.Ytooageeehallbaa.Scr
namespace Go.Proofs.Ytooageeehallbaa
open Go Go.RowKit Go.Proofs.YtooageeehallbaaW.PrintWords Go.Proofs.YtooageeehallbaaW.PrintLast Go.Proofs.YtooageeehallbaaW.PrintMore
abbrev zV := @List.length_append
end Go.Proofs.Ytooageeehallbaa
namespace Go.Proofs.Ytooageeehallbaa.Scr
open Go.RowKit Go.Proofs.YtooageeehallbaaW.PrintWords Go.Proofs.YtooageeehallbaaW.PrintLast Go.Proofs.YtooageeehallbaaW.PrintMore Go.Proofs.Ytooageeehallbaa.QRunsCut
set_option linter.unusedVariables false
set_option linter.unusedSimpArgs false
theorem own_ok {rows cols : Int} {l : List S35} (hs : Small rows cols) (h : Grid rows cols l) : repriseref7_own.f l = some l:=own_eq (len_lt hs h.len).2.1
/-! #### the runes of bytes: Step is total,its runes may be -/
theorem beg_l0 (L : List Int) (h1 : 1 ≤ L.length) (h3 : L.length ≤ 3) : ∀ (m i : Nat),i + m = L.length → 1 ≤ i → ∀ k,∃ t,repriseref1_Begins.l0 (k + m + 1) L (i : Int) = some t
|0,i,hm,hi,k=>by
  rw [repriseref1_Begins.l0,if_neg (by omega)];by_cases c1 : (L.length : Int) = 1
  ·rw [if_pos c1];exact ⟨_,rfl⟩
  rw [if_neg c1,if_pos (by omega)];have hl : (1 : Int) < (L.length : Int):=by omega
  simp only [hl,if_true];repeat' split
  all_goals first|exact ⟨_,rfl⟩|omega
|m + 1,i,hm,hi,k=>by
  rw [repriseref1_Begins.l0,if_pos (by omega),if_pos (by omega)];by_cases c : (Go.bits .and .u8 (rd L (i : Int)) 192) = 128
  ·rw [if_pos c,w64 (by omega)];obtain ⟨t,ht⟩:=beg_l0 L h1 h3 m (i + 1) (by omega) (by omega) k;refine ⟨t,?_⟩;rw [show k + (m + 1) = k + m + 1 by omega];exact ht
  ·rw [if_neg c];exact ⟨_,rfl⟩
theorem beg_j0 (k : Nat) (L : List Int) (b : Bool) : repriseref1_Begins.j0 (k + 1) L b = if b = true then (some false) else (if 0 < (L.length : Int) then (if (rd L 0) ≥ 224 then (repriseref1_Begins.j1 k L 3) else (repriseref1_Begins.j1 k L 2)) else (none)):=by rw [repriseref1_Begins.j0]
theorem beg_j1 (k : Nat) (L : List Int) (n : Int) : repriseref1_Begins.j1 (k + 1) L n = if 0 < (L.length : Int) then (if (rd L 0) ≥ 240 then (repriseref1_Begins.j2 k L 4) else (repriseref1_Begins.j2 k L n)) else (none):=by rw [repriseref1_Begins.j1]
theorem beg_j2 (k : Nat) (L : List Int) (n : Int) : repriseref1_Begins.j2 (k + 1) L n = if (L.length : Int) ≥ n then (some false) else (repriseref1_Begins.l0 k L 1):=by rw [repriseref1_Begins.j2]
theorem begins_ok (L : List Int) (k : Nat) : ∃ t,repriseref1_Begins.f (k + 10) L = some t∧(t = true → L.length ≤ 3):=by
 have hf : ∀ b,b = true → repriseref1_Begins.j0 (k + 10) L b = some false:=by
  intro b hb;rw [show k + 10 = k + 9 + 1 from rfl,beg_j0,if_pos hb]
 unfold repriseref1_Begins.f;by_cases c1 : (L.length : Int) < 1
 ·rw [if_pos c1,hf _ rfl];exact ⟨_,rfl,fun e=>by cases e⟩
 rw [if_neg c1];by_cases c2 : (L.length : Int) > 3
 ·rw [if_pos c2,hf _ rfl];exact ⟨_,rfl,fun e=>by cases e⟩
 rw [if_neg c2,if_pos (by omega)];have h2 : ∀ n,∃ t,repriseref1_Begins.j2 (k + 8) L n = some t:=by
  intro n;rw [show k + 8 = k + 7 + 1 from rfl,beg_j2];by_cases c : (L.length : Int) ≥ n
  ·rw [if_pos c];exact ⟨_,rfl⟩
  ·rw [if_neg c];obtain ⟨t,ht⟩:=beg_l0 L (by omega) (by omega) (L.length - 1) 1 (by omega) (Nat.le_refl _) (k + 6 - (L.length - 1));rw [show k + 6 - (L.length - 1) + (L.length - 1) + 1 = k + 7 by omega] at ht;exact ⟨t,ht⟩
 have h1 : ∀ n,∃ t,repriseref1_Begins.j1 (k + 9) L n = some t:=by
  intro n;rw [show k + 9 = k + 8 + 1 from rfl,beg_j1,if_pos (by omega)];split
  ·exact h2 _
  ·exact h2 _
 have h0 : ∀ b,∃ t,repriseref1_Begins.j0 (k + 10) L b = some t:=by
  intro b;by_cases c : b = true
  ·exact ⟨_,hf b c⟩
  ·rw [show k + 10 = k + 9 + 1 from rfl,beg_j0,if_neg c,if_pos (by omega)];split
   ·exact h1 _
   ·exact h1 _
 by_cases c3 : rd L 0 < 194
 ·rw [if_pos c3,hf _ rfl];exact ⟨_,rfl,fun e=>by cases e⟩
 ·rw [if_neg c3];obtain ⟨t,ht⟩:=h0 (decide (rd L 0 > 244));exact ⟨t,ht,fun _=>by omega⟩
theorem may_ok (r : Int) : ∃ t,repriseref1_May.f r = some t∧(t = true → RuneOk r):=by
 unfold repriseref1_May.f RuneOk;by_cases c1 : r ≥ 0
 ·rw [if_pos c1];by_cases c2 : r ≤ 1114111
  ·rw [if_pos c2];by_cases c3 : r < 55296
   ·rw [if_pos c3];exact ⟨_,rfl,fun _=>⟨c1,c2,by omega⟩⟩
   ·rw [if_neg c3];exact ⟨_,rfl,fun e=>⟨c1,c2,by have:=of_decide_eq_true e;omega⟩⟩
  ·rw [if_neg c2];exact ⟨_,rfl,fun e=>by cases e⟩
 ·rw [if_neg c1];exact ⟨_,rfl,fun e=>by cases e⟩
theorem whole_l0 (L : List Int) (least : Int) (n : Nat) (hn : L.length = n) (h4 : n ≤ 4) : ∀ (m i : Nat) (r : Int),i + m = n → ∀ k,∃ r' t,repriseref1_whole.l0 (k + m + 1) L (n : Int) least r (i : Int) = some (r',t)∧(t = true → RuneOk r')
|0,i,r,hm,k=>by
  rw [repriseref1_whole.l0,if_neg (by omega)];by_cases c : r ≥ least
  ·rw [if_pos c];obtain ⟨t,ht,hr⟩:=may_ok r;rw [ht,zX];exact ⟨_,_,rfl,hr⟩
  ·rw [if_neg c];exact ⟨_,_,rfl,fun e=>by cases e⟩
|m + 1,i,r,hm,k=>by
  rw [repriseref1_whole.l0,if_pos (by omega),if_pos (by omega),if_pos (by omega)];by_cases c : (Go.bits .and .u8 (rd L (i : Int)) 192) = 128
  ·rw [if_pos c,w64 (by omega)];obtain ⟨r',t,ht,hr⟩:=whole_l0 L least n hn h4 m (i + 1) _ (by omega) k;refine ⟨r',t,?_,hr⟩;rw [show k + (m + 1) = k + m + 1 by omega];exact ht
  ·rw [if_neg c];exact ⟨_,_,rfl,fun e=>by cases e⟩
theorem whole_j3 (k : Nat) (L : List Int) (n : Nat) (hn : 1 ≤ n∧n ≤ 4) (least r : Int) : ∃ r' t,repriseref1_whole.j3 (k + 7) L (n : Int) least r = some (r',t)∧(t = true → RuneOk r'):=by
 have e : repriseref1_whole.j3 (k + 7) L (n : Int) least r = if (L.length : Int) = (n : Int) then (repriseref1_whole.l0 (k + 6) L (n : Int) least r 1) else (some (0,false)):=by
  rw [show k + 7 = k + 6 + 1 from rfl,repriseref1_whole.j3]
 rw [e];by_cases c : (L.length : Int) = (n : Int)
 ·rw [if_pos c];obtain ⟨r',t,ht,hr⟩:=whole_l0 L least n (by omega) hn.2 (n - 1) 1 r (by omega) (k + 5 - (n - 1));rw [show k + 5 - (n - 1) + (n - 1) + 1 = k + 6 by omega] at ht;exact ⟨r',t,ht,hr⟩
 ·rw [if_neg c];exact ⟨_,_,rfl,fun e=>by cases e⟩
theorem whole_ok (L : List Int) (h : 1 ≤ L.length) (k : Nat) : ∃ r t,repriseref1_whole.f (k + 10) L = some (r,t)∧(t = true → RuneOk r):=by
 have j2 : ∀ a r b,∃ r' t,repriseref1_whole.j2 (k + 8) L a 1 0 r b = some (r',t)∧(t = true → RuneOk r'):=by
  intro a r b;have e : repriseref1_whole.j2 (k + 8) L a 1 0 r b = if b = true then (repriseref1_whole.j3 (k + 7) L 4 65536 (wrap32 (Go.bits .and .u8 a 7))) else (if a ≥ 128 then (some (0,false)) else (repriseref1_whole.j3 (k + 7) L 1 0 r)):=by
   rw [show k + 8 = k + 7 + 1 from rfl,repriseref1_whole.j2]
  rw [e];split
  ·exact whole_j3 k L 4 (by decide) _ _
  ·split
   ·exact ⟨_,_,rfl,fun e=>by cases e⟩
   ·exact whole_j3 k L 1 (by decide) _ _
 have j1 : ∀ a r b,∃ r' t,repriseref1_whole.j1 (k + 9) L a 1 0 r b = some (r',t)∧(t = true → RuneOk r'):=by
  intro a r b;have e : repriseref1_whole.j1 (k + 9) L a 1 0 r b = if b = true then (repriseref1_whole.j3 (k + 8) L 3 2048 (wrap32 (Go.bits .and .u8 a 15))) else (if a ≥ 240 then (repriseref1_whole.j2 (k + 8) L a 1 0 r (decide (a < 248))) else (repriseref1_whole.j2 (k + 8) L a 1 0 r false)):=by
   rw [show k + 9 = k + 8 + 1 from rfl,repriseref1_whole.j1]
  rw [e];split
  ·exact whole_j3 (k + 1) L 3 (by decide) _ _
  ·split
   ·exact j2 _ _ _
   ·exact j2 _ _ _
 have j0 : ∀ a r b,∃ r' t,repriseref1_whole.j0 (k + 10) L a 1 0 r b = some (r',t)∧(t = true → RuneOk r'):=by
  intro a r b;have e : repriseref1_whole.j0 (k + 10) L a 1 0 r b = if b = true then (repriseref1_whole.j3 (k + 9) L 2 128 (wrap32 (Go.bits .and .u8 a 31))) else (if a ≥ 224 then (repriseref1_whole.j1 (k + 9) L a 1 0 r (decide (a < 240))) else (repriseref1_whole.j1 (k + 9) L a 1 0 r false)):=by
   rw [show k + 10 = k + 9 + 1 from rfl,repriseref1_whole.j0]
  rw [e];split
  ·exact whole_j3 (k + 2) L 2 (by decide) _ _
  ·split
   ·exact j1 _ _ _
   ·exact j1 _ _ _
 unfold repriseref1_whole.f;rw [if_pos (by omega)];split
 ·exact j0 _ _ _
 ·exact j0 _ _ _
theorem rune_bad : RuneOk 65533:=⟨by decide,by decide,by decide⟩
theorem step_j1 (k : Nat) (b : Int) (hb : 0 ≤ b∧b ≤ 255) (o : List Int) (ho : o.length ≤ 1) (hr : ∀ x ∈ o,RuneOk x) : ∃ q r,repriseref1_Step.j1 (k + 11) b o = some (q,r)∧(Bytes8 q∧q.length ≤ 3)∧r.length ≤ 2∧∀ x ∈ r,RuneOk x:=by
 have e : repriseref1_Step.j1 (k + 11) b o = if b < 128 then (if o.length < 35184372088832 then (some (([] : List Int),(o ++ [wrap32 (b)]))) else (none)) else ((repriseref1_Begins.f (k + 10) (([b] : List Int))).bind fun t155=>(if t155 = true then (some ((([b] : List Int)),o)) else (if o.length < 35184372088832 then (some (([] : List Int),(o ++ [65533]))) else (none)))):=by
  rw [show k + 11 = k + 10 + 1 from rfl,repriseref1_Step.j1]
 rw [e];have app : ∀ y,RuneOk y → ∀ x ∈ o ++ [y],RuneOk x:=by
  intro y hy x hx;rcases List.mem_append.1 hx with hx|hx
  ·exact hr x hx
  ·rw [List.mem_singleton.1 hx];exact hy
 by_cases c : b < 128
 ·rw [if_pos c,if_pos (by omega)];have ew : wrap32 b = b:=by unfold wrap32;omega
  rw [ew];exact ⟨_,_,rfl,⟨fun _ h=>(by cases h),by decide⟩,by rw [zV];show _ + 1 ≤ 2;omega,app b ⟨hb.1,by omega,by omega⟩⟩
 ·rw [if_neg c];obtain ⟨t,ht,_⟩:=begins_ok [b] k;rw [ht,zX];by_cases c2 : t = true
  ·rw [if_pos c2];exact ⟨_,_,rfl,⟨fun x h=>by rw [List.mem_singleton.1 h];exact hb,by show 1 ≤ 3;decide⟩,by omega,hr⟩
  ·rw [if_neg c2,if_pos (by omega)];exact ⟨_,_,rfl,⟨fun _ h=>(by cases h),by decide⟩,by rw [zV];show _ + 1 ≤ 2;omega,app 65533 rune_bad⟩
/-- What the bytes ahead and one more byte come to. -/
theorem rstep_ok {L : List Int} (hL : Bytes8 L∧L.length ≤ 3) {b : Int} (hb : 0 ≤ b∧b ≤ 255) : ∃ k q r,repriseref1_Step.f k L b = some (q,r)∧(Bytes8 q∧q.length ≤ 3)∧r.length ≤ 2∧∀ x ∈ r,RuneOk x:=by
 have e : ∀ t,repriseref1_Step.j0 20 L b ([] : List Int) t = if t = true then (if ([] : List Int).length + L.length < 140737488355328 then ((some (([] : List Int) ++ L : List Int)).bind fun y134=>(if y134.length < 140737488355328 then ((some (y134 ++ [b] : List Int)).bind fun y137=>((repriseref1_whole.f 19 y137).bind fun bt140=>(if bt140.2 = true then (some (([] : List Int),(([bt140.1] : List Int)))) else ((repriseref1_Begins.f 19 y137).bind fun t145=>(if t145 = true then (some (y137,([] : List Int))) else (if ([] : List Int).length < 35184372088832 then (repriseref1_Step.j1 19 b (([] : List Int) ++ [65533])) else (none))))))) else (none))) else (none)) else (repriseref1_Step.j1 19 b ([] : List Int)):=by
  intro t;rw [show (20 : Nat) = 19 + 1 from rfl,repriseref1_Step.j0]
 have j0 : ∀ t,∃ q r,repriseref1_Step.j0 20 L b ([] : List Int) t = some (q,r)∧(Bytes8 q∧q.length ≤ 3)∧r.length ≤ 2∧∀ x ∈ r,RuneOk x:=by
  intro t;rw [e];by_cases c : t = true
  ·rw [if_pos c,if_pos (by simp only [List.length_nil];omega),zX,List.nil_append,if_pos (by omega),zX];obtain ⟨r,t2,h2,hr2⟩:=whole_ok (L ++ [b]) (by rw [zV];show 1 ≤ _ + 1;omega) 9;rw [h2,zX];by_cases c2 : t2 = true
   ·rw [if_pos c2];exact ⟨_,_,rfl,⟨fun _ h=>(by cases h),by decide⟩,by show 1 ≤ 2;decide,fun x hx=>by rw [List.mem_singleton.1 hx];exact hr2 c2⟩
   ·rw [if_neg c2];obtain ⟨t3,h3,hl3⟩:=begins_ok (L ++ [b]) 9;rw [h3,zX];by_cases c3 : t3 = true
    ·rw [if_pos c3];refine ⟨_,_,rfl,⟨fun x hx=>?_,hl3 c3⟩,by decide,fun x hx=>by cases hx⟩;rcases List.mem_append.1 hx with hx|hx
     ·exact hL.1 x hx
     ·rw [List.mem_singleton.1 hx];exact hb
    ·rw [if_neg c3,if_pos (by decide)];exact step_j1 8 b hb _ (by decide) (fun x hx=>by rw [List.mem_singleton.1 hx];exact rune_bad)
  ·rw [if_neg c];exact step_j1 8 b hb _ (by decide) (fun x hx=>by cases hx)
 refine ⟨20,?_⟩;unfold repriseref1_Step.f;by_cases c : (L.length : Int) > 0
 ·rw [if_pos c];obtain ⟨t,ht,_⟩:=begins_ok L 10;rw [ht,zX];exact j0 t
 ·rw [if_neg c];exact j0 false
theorem prints_run (L : List Int) (hr : ∀ x ∈ L,RuneOk x) (hlen : L.length < 1000000) : ∀ (m i : Nat) (o : List S87),i + m = L.length → o.length = i → (∀ a ∈ o,a.f0 = 0∧RuneOk a.f1∧a.f4 = []∧a.f5 = []) → ∃ k o',repriseref7_prints.l0 k L o (i : Int) = some o'∧(∀ a ∈ o',a.f0 = 0∧RuneOk a.f1∧a.f4 = []∧a.f5 = [])∧o'.length = L.length
|0,i,o,hm,ho,ha=>by
  refine ⟨1,o,?_,ha,by omega⟩;rw [repriseref7_prints.l0,if_neg (by omega)]
|m + 1,i,o,hm,ho,ha=>by
  have hmem : RuneOk (rd L (i : Int)):=by
   unfold rd;rw [List.getD_eq_getElem?_getD,Int.toNat_natCast,List.getElem?_eq_getElem (by omega)];exact hr _ (List.getElem_mem _)
  obtain ⟨k,o',hk,ho'⟩:=prints_run L hr hlen m (i + 1) (o ++ [⟨0,rd L (i : Int),0,0,[],[]⟩]) (by omega) (by rw [zV];show _ + 1 = _;omega) (fun a h=>by
   rcases List.mem_append.1 h with h|h
   ·exact ha a h
   ·rw [List.mem_singleton.1 h];exact ⟨rfl,hmem,rfl,rfl⟩)
  refine ⟨k + 1,o',?_,ho'⟩;rw [repriseref7_prints.l0,if_pos (by omega),if_pos (by omega),if_pos (by omega),w64 (by omega)];exact hk
theorem prints_ok {L : List Int} (hr : ∀ x ∈ L,RuneOk x) (hlen : L.length < 1000000) : ∃ k o,repriseref7_prints.f k L = some o∧(∀ a ∈ o,a.f0 = 0∧RuneOk a.f1∧a.f4 = []∧a.f5 = [])∧o.length = L.length:=by
 obtain ⟨k,o,hk,ho⟩:=prints_run L hr hlen L.length 0 [] (by omega) rfl (fun a h=>by cases h);exact ⟨k,o,hk,ho⟩
end Go.Proofs.Ytooageeehallbaa.Scr
namespace Go.Proofs.Ytooageeehallbaa.Scr
open Go.RowKit Go.Proofs.YtooageeehallbaaW.PrintWords Go.Proofs.YtooageeehallbaaW.PrintLast Go.Proofs.YtooageeehallbaaW.PrintMore Go.Proofs.Ytooageeehallbaa.QRunsCut
set_option linter.unusedVariables false
set_option linter.unusedSimpArgs false
abbrev Sl.v (c : Sl) : Value:=.slice c.A c.n c.c
/-- A row that is read,with its footprint. -/
def Row {α : Type} (d : Kd α) (c : Sl) (P : List α → Prop) (W : World) (ok : Nat → Prop) : Prop:=∃ l,P l∧Kd.V d 0 W 0 ok (.slice c.A c.n c.c) l
theorem mvRow {α : Type} {d : Kd α} {c : Sl} {P : List α → Prop} : Mvb (Row d c P) :=
 ⟨fun ⟨l,hp,h⟩ hm=>⟨l,hp,Kd.V_step h hm⟩,fun ⟨l,hp,h⟩ hm=>⟨l,hp,Kd.V_mono h hm⟩,fun ⟨l,hp,h⟩=>⟨l,hp,Kd.V_bound h⟩⟩
theorem Row.nil {α : Type} {d : Kd α} {P : List α → Prop} {W : World} {ok : Nat → Prop} (h : P []) : Row d ⟨none,0,0⟩ P W ok:=⟨[],h,Kd.V_nil d 0 W 0 ok⟩
theorem Row.imp {α : Type} {d : Kd α} {c : Sl} {P P' : List α → Prop} {W : World} {ok : Nat → Prop} (h : Row d c P W ok) (hp : ∀ l,P l → P' l) : Row d c P' W ok:=let ⟨l,h1,h2⟩:=h;⟨l,hp l h1,h2⟩
theorem Row.reads {α : Type} {d : Kd α} {c : Sl} {P : List α → Prop} {W : World} {ok : Nat → Prop} (h : Row d c P W ok) : ∃ l,P l∧c.n = l.length∧l.length ≤ c.c∧d.C W c.A l.length l:=by
 obtain ⟨l,hp,hv⟩:=h;obtain ⟨h1,h2,h3⟩:=Kd.V_reads' hv;exact ⟨l,hp,h1,by omega,h3⟩
/-- A row that a call made. -/
theorem Row.made {α : Type} {d : Kd α} {e n : Nat} {w' : World} {v : Value} {l : List α} {P : List α → Prop} (h : d.R e w' n (fun _=>True) v l) (hp : P l) : ∃ c : Sl,v = .slice c.A c.n c.c∧Row d c P w' (fun k=>n ≤ k):=by
 have h2 : Kd.V d 0 w' 0 (fun k=>n ≤ k) v l:=Kd.V_mono (Kd.R_V (e:=e) (base':=0) (Kd.R_bound h)) (fun k hk=>hk.2.1);obtain ⟨A,c,rfl⟩:=Kd.V_slice h2;exact ⟨⟨A,l.length,c⟩,rfl,l,hp,h2⟩
abbrev Cel (rows cols : Int) (c : Sl):=Row k35 c (Grid rows cols)
abbrev Tab (cols : Int) (c : Sl):=Row Kd.bool c (fun l=>(l.length : Int) = cols)
abbrev Oth (rows cols : Int) (alt : Bool) (c : Sl):=Row k35 c (fun l=>if alt = true then Grid rows cols l else l = [])
/-- Bytes of a rune that has begun. -/
def UtfOk (l : List Int) : Prop:=Bytes8 l∧l.length ≤ 3
structure ParIn (s : Par) (W : World) (ok : Nat → Prop) : Prop where
 p : Row (Kd.int .i64) s.p ParamsOk W ok
 i : Row (Kd.int .u8) s.i Bytes8 W ok
 u : Row (Kd.int .u8) s.u UtfOk W ok
theorem mvPar {s : Par} : Mvb (ParIn s) :=
 ⟨fun h hm=>⟨mvRow.step h.p hm,mvRow.step h.i hm,mvRow.step h.u hm⟩,fun h hm=>⟨mvRow.mono h.p hm,mvRow.mono h.i hm,mvRow.mono h.u hm⟩,fun h=>⟨mvRow.bound h.p,mvRow.bound h.i,mvRow.bound h.u⟩⟩
structure ActIn (a : Ac) (W : World) (ok : Nat → Prop) : Prop where
 r : a.kind = 0 → RuneOk a.r
 p : Row (Kd.int .i64) a.p ParamsOk W ok
 i : Row (Kd.int .u8) a.i Bytes8 W ok
theorem mvAct {a : Ac} : Mvb (ActIn a) :=
 ⟨fun h hm=>⟨h.r,mvRow.step h.p hm,mvRow.step h.i hm⟩,fun h hm=>⟨h.r,mvRow.mono h.p hm,mvRow.mono h.i hm⟩,fun h=>⟨h.r,mvRow.bound h.p,mvRow.bound h.i⟩⟩
def Scr.par (s : Scr) : Par:=⟨s.mode,s.priv,s.p,s.i,s.u⟩
def In (a n : Int) : Prop:=0 ≤ a∧a < n
structure Inv (rows cols : Int) (s : Scr) (W : World) (ok : Nat → Prop) : Prop where
 small : Small rows cols
 hrows : s.rows = rows
 hcols : s.cols = cols
 c : Cel rows cols s.c W ok
 t : Tab cols s.t W ok
 o : Oth rows cols s.alt s.o W ok
 y : In s.y rows
 x : In s.x cols
 sy : In s.sy rows
 sx : In s.sx cols
 oy : In s.oy rows
 ox : In s.ox cols
 tb : 0 ≤ s.top∧s.top ≤ s.bottom∧s.bottom < rows
 attr : AttrOk s.attr
 sattr : AttrOk s.sattr
 p : ParIn s.par W ok
section
variable {rows cols : Int} {s : Scr} {W : World} {ok : Nat → Prop}
theorem mvInv : Mvb (Inv rows cols s) :=
 ⟨fun h hm=>{ h with c:=mvRow.step h.c hm,t:=mvRow.step h.t hm,o:=mvRow.step h.o hm,p:=mvPar.step h.p hm },fun h hm=>{ h with c:=mvRow.mono h.c hm,t:=mvRow.mono h.t hm,o:=mvRow.mono h.o hm,p:=mvPar.mono h.p hm },fun h=>{ h with c:=mvRow.bound h.c,t:=mvRow.bound h.t,o:=mvRow.bound h.o,p:=mvPar.bound h.p }⟩
theorem Inv.set_c (h : Inv rows cols s W ok) {a : Sl} (hc : Cel rows cols a W ok) : Inv rows cols (s.set_c a) W ok:={ h with c:=hc }
theorem Inv.set_t (h : Inv rows cols s W ok) {a : Sl} (hc : Tab cols a W ok) : Inv rows cols (s.set_t a) W ok:={ h with t:=hc }
theorem Inv.set_y (h : Inv rows cols s W ok) {a : Int} (hc : In a rows) : Inv rows cols (s.set_y a) W ok:={ h with y:=hc }
theorem Inv.set_x (h : Inv rows cols s W ok) {a : Int} (hc : In a cols) : Inv rows cols (s.set_x a) W ok:={ h with x:=hc }
theorem Inv.set_sy (h : Inv rows cols s W ok) {a : Int} (hc : In a rows) : Inv rows cols (s.set_sy a) W ok:={ h with sy:=hc }
theorem Inv.set_sx (h : Inv rows cols s W ok) {a : Int} (hc : In a cols) : Inv rows cols (s.set_sx a) W ok:={ h with sx:=hc }
theorem Inv.set_oy (h : Inv rows cols s W ok) {a : Int} (hc : In a rows) : Inv rows cols (s.set_oy a) W ok:={ h with oy:=hc }
theorem Inv.set_ox (h : Inv rows cols s W ok) {a : Int} (hc : In a cols) : Inv rows cols (s.set_ox a) W ok:={ h with ox:=hc }
theorem Inv.set_attr (h : Inv rows cols s W ok) {a : Int} (hc : AttrOk a) : Inv rows cols (s.set_attr a) W ok:={ h with attr:=hc }
theorem Inv.set_sattr (h : Inv rows cols s W ok) {a : Int} (hc : AttrOk a) : Inv rows cols (s.set_sattr a) W ok:={ h with sattr:=hc }
theorem Inv.set_wrap (h : Inv rows cols s W ok) (a : Bool)  : Inv rows cols (s.set_wrap a) W ok:={ h with }
theorem Inv.set_auto (h : Inv rows cols s W ok) (a : Bool)  : Inv rows cols (s.set_auto a) W ok:={ h with }
theorem Inv.set_shown (h : Inv rows cols s W ok) (a : Bool)  : Inv rows cols (s.set_shown a) W ok:={ h with }
theorem Inv.set_tb (h : Inv rows cols s W ok) {a b : Int} (hc : 0 ≤ a∧a ≤ b∧b < rows) : Inv rows cols ((s.set_top a).set_bottom b) W ok:={ h with tb:=hc }
theorem Inv.set_t2 {b c : Sl} (h : Inv rows cols (s.set_t c) W ok) : Inv rows cols ((s.set_t b).set_t c) W ok:=h
theorem Inv.set_x2 {a b : Int} (h : Inv rows cols (s.set_x a) W ok) : Inv rows cols ((s.set_x b).set_x a) W ok:=h
theorem Inv.set_c2 {b c : Sl} (h : Inv rows cols (s.set_c c) W ok) : Inv rows cols ((s.set_c b).set_c c) W ok:=h
theorem Inv.set_cwc {a : Bool} {b c : Sl} (h : Inv rows cols ((s.set_wrap a).set_c c) W ok) : Inv rows cols (((s.set_c b).set_wrap a).set_c c) W ok:=h
/-- What a screen's function comes to. -/
def Post (rows cols : Int) (w : World) (ok : Nat → Prop) (e : Ending) (w' : World) : Prop:=∃ s',e = .returned (.agg (Scr.cs s'))∧Inv rows cols s' w' (fun k=>ok k∨w.heap.size ≤ k)∧Below w.heap.size w w'
end
theorem up_call {rows cols : Int} {c : Sl} {W : World} {ok : Nat → Prop} (hs : Small rows cols) (hc : Cel rows cols c W ok) (top bottom n : Int) : Calls Try.prog 27 #[.slice c.A c.n c.c,.int .i64 cols,.int .i64 top,.int .i64 bottom,.int .i64 n] W fun e w'=>∃ c' : Sl,e = .returned (.slice c'.A c'.n c'.c)∧Cel rows cols c' w' (fun k=>W.heap.size ≤ k)∧Below W.heap.size W w':=by
 obtain ⟨l,hG,hn,hl,hC⟩:=Row.reads hc;obtain ⟨k,l',hf,hG'⟩:=up_okP hs hG top bottom n;rw [hn];refine (QRunsCut.repriseref7_Up.calls k c.A c.c l cols top bottom n l' W hC hl hf).mono ?_;rintro e w' ⟨v,rfl,hR,hb⟩
 obtain ⟨c',rfl,hr⟩:=Row.made hR hG';exact ⟨c',rfl,hr,hb⟩
theorem down_call {rows cols : Int} {c : Sl} {W : World} {ok : Nat → Prop} (hs : Small rows cols) (hc : Cel rows cols c W ok) (top bottom n : Int) : Calls Try.prog 28 #[.slice c.A c.n c.c,.int .i64 cols,.int .i64 top,.int .i64 bottom,.int .i64 n] W fun e w'=>∃ c' : Sl,e = .returned (.slice c'.A c'.n c'.c)∧Cel rows cols c' w' (fun k=>W.heap.size ≤ k)∧Below W.heap.size W w':=by
 obtain ⟨l,hG,hn,hl,hC⟩:=Row.reads hc;obtain ⟨k,l',hf,hG'⟩:=down_okP hs hG top bottom n;rw [hn];refine (QRunsCut.repriseref7_Down.calls k c.A c.c l cols top bottom n l' W hC hl hf).mono ?_;rintro e w' ⟨v,rfl,hR,hb⟩
 obtain ⟨c',rfl,hr⟩:=Row.made hR hG';exact ⟨c',rfl,hr,hb⟩
theorem ins_call {rows cols : Int} {c : Sl} {W : World} {ok : Nat → Prop} (hs : Small rows cols) (hc : Cel rows cols c W ok) (y x n : Int) : Calls Try.prog 29 #[.slice c.A c.n c.c,.int .i64 cols,.int .i64 y,.int .i64 x,.int .i64 n] W fun e w'=>∃ c' : Sl,e = .returned (.slice c'.A c'.n c'.c)∧Cel rows cols c' w' (fun k=>W.heap.size ≤ k)∧Below W.heap.size W w':=by
 obtain ⟨l,hG,hn,hl,hC⟩:=Row.reads hc;obtain ⟨k,l',hf,hG'⟩:=ins_okP hs hG y x n;rw [hn];refine (QRunsCut.repriseref7_Insert.calls k c.A c.c l cols y x n l' W hC hl hf).mono ?_;rintro e w' ⟨v,rfl,hR,hb⟩
 obtain ⟨c',rfl,hr⟩:=Row.made hR hG';exact ⟨c',rfl,hr,hb⟩
theorem del_call {rows cols : Int} {c : Sl} {W : World} {ok : Nat → Prop} (hs : Small rows cols) (hc : Cel rows cols c W ok) (y x n : Int) : Calls Try.prog 30 #[.slice c.A c.n c.c,.int .i64 cols,.int .i64 y,.int .i64 x,.int .i64 n] W fun e w'=>∃ c' : Sl,e = .returned (.slice c'.A c'.n c'.c)∧Cel rows cols c' w' (fun k=>W.heap.size ≤ k)∧Below W.heap.size W w':=by
 obtain ⟨l,hG,hn,hl,hC⟩:=Row.reads hc;obtain ⟨k,l',hf,hG'⟩:=del_okP hs hG y x n;rw [hn];refine (QRunsCut.repriseref7_Delete.calls k c.A c.c l cols y x n l' W hC hl hf).mono ?_;rintro e w' ⟨v,rfl,hR,hb⟩
 obtain ⟨c',rfl,hr⟩:=Row.made hR hG';exact ⟨c',rfl,hr,hb⟩
theorem era_call {rows cols : Int} {c : Sl} {W : World} {ok : Nat → Prop} (hs : Small rows cols) (hc : Cel rows cols c W ok) (y a b : Int) : Calls Try.prog 31 #[.slice c.A c.n c.c,.int .i64 cols,.int .i64 y,.int .i64 a,.int .i64 b] W fun e w'=>∃ c' : Sl,e = .returned (.slice c'.A c'.n c'.c)∧Cel rows cols c' w' (fun k=>W.heap.size ≤ k)∧Below W.heap.size W w':=by
 obtain ⟨l,hG,hn,hl,hC⟩:=Row.reads hc;obtain ⟨k,l',hf,hG'⟩:=era_okP hs hG y a b;rw [hn];refine (QRunsCut.repriseref7_Erase.calls k c.A c.c l cols y a b l' W hC hl hf).mono ?_;rintro e w' ⟨v,rfl,hR,hb⟩
 obtain ⟨c',rfl,hr⟩:=Row.made hR hG';exact ⟨c',rfl,hr,hb⟩
theorem mend_call {rows cols : Int} {c : Sl} {W : World} {ok : Nat → Prop} {y : Int} (hs : Small rows cols) (hy : In y rows) (hc : Row k35 c (GridBut rows cols y) W ok) : Calls Try.prog 32 #[.slice c.A c.n c.c,.int .i64 cols,.int .i64 y] W fun e w'=>∃ c' : Sl,e = .returned (.slice c'.A c'.n c'.c)∧Cel rows cols c' w' (fun k=>W.heap.size ≤ k)∧Below W.heap.size W w':=by
 obtain ⟨l,hG,hn,hl,hC⟩:=Row.reads hc;obtain ⟨k,l',hf,hG'⟩:=mend_okP hs hy hG;rw [hn];refine (QRunsCut.repriseref7_Mend.calls k c.A c.c l cols y l' W hC hl hf).mono ?_;rintro e w' ⟨v,rfl,hR,hb⟩
 obtain ⟨c',rfl,hr⟩:=Row.made hR hG';exact ⟨c',rfl,hr,hb⟩
theorem own_call {rows cols : Int} {c : Sl} {W : World} {ok : Nat → Prop} (hs : Small rows cols) (hc : Cel rows cols c W ok) : Calls Try.prog 51 #[.slice c.A c.n c.c] W fun e w'=>∃ v l,e = .returned v∧Grid rows cols l∧Kd.R k35 35 w' W.heap.size (fun _=>True) v l∧Below W.heap.size W w':=by
 obtain ⟨l,hG,hn,hl,hC⟩:=Row.reads hc;rw [hn];refine (QRunsCut.repriseref7_own.calls c.A c.c l l W hC hl (own_ok hs hG)).mono ?_;rintro e w' ⟨v,rfl,hR,hb⟩
 exact ⟨v,l,rfl,hG,hR,hb⟩
theorem blank_call {rows cols : Int} (W : World) (hs : Small rows cols) : Calls Try.prog 35 #[.int .i64 rows,.int .i64 cols] W fun e w'=>∃ c' : Sl,e = .returned (.slice c'.A c'.n c'.c)∧Cel rows cols c' w' (fun k=>W.heap.size ≤ k)∧Below W.heap.size W w':=by
 obtain ⟨k,l',hf,hG'⟩:=blank_okP hs;refine (QRunsCut.repriseref7_Blank.calls k rows cols l' W hf).mono ?_;rintro e w' ⟨v,rfl,hR,hb⟩
 obtain ⟨c',rfl,hr⟩:=Row.made hR hG';exact ⟨c',rfl,hr,hb⟩
theorem below_drawn {W w' : World} {B : Nat} (h : Drawn0 W w') : Below B W w':=by
 obtain ⟨n,rfl⟩:=h.out;exact pw_below_drewN (zE _ _) n
theorem cellb_call (W : World) : Calls Try.prog 53 #[] W fun e w'=>e = .returned (.agg #[.int .i32 32,.int .u16 0,.int .u8 0])∧Below W.heap.size W w':=QRunsCut.repriseref7_blank.calls 32 0 0 W rfl
theorem param_call {c : Sl} {W : World} {ok : Nat → Prop} (hc : Row (Kd.int .i64) c ParamsOk W ok) {i u : Int} (hi : 0 ≤ i) (hu : 0 ≤ u∧u ≤ 65535) : Calls Try.prog 76 #[.slice c.A c.n c.c,.int .i64 i,.int .i64 u] W fun e w'=>∃ r,e = .returned (.int .i64 r)∧((0 ≤ r∧r ≤ 65535)∧(1 ≤ u → 1 ≤ r))∧Below W.heap.size W w':=by
 obtain ⟨l,hP,hn,hl,hC⟩:=Row.reads hc;obtain ⟨r,hf,h1,h2⟩:=param_ok hP hi hu;rw [hn];refine (QRunsCut.repriseref7_param.calls c.A c.c l i u r W hC hl hf).mono ?_;rintro e w' ⟨rfl,hd⟩
 exact ⟨r,rfl,⟨h1,h2⟩,below_drawn hd⟩
theorem look_call {a : Int} (W : World) (h : AttrOk a) (k : Int) : Calls Try.prog 79 #[.int .u16 a,.int .i64 k] W fun e w'=>∃ r,e = .returned (.int .u16 r)∧AttrOk r∧Below W.heap.size W w':=by
 obtain ⟨n,a',hf,ha⟩:=look_okP h k;refine (QRunsCut.repriseref7_look.calls n a k a' W hf).mono ?_;rintro e w' ⟨rfl,hd⟩
 exact ⟨a',rfl,ha,below_drawn hd⟩
theorem width_call {r : Int} (W : World) (h : RuneOk r) : Calls Try.prog 74 #[.int .i32 r] W fun e w'=>∃ v,e = .returned (.int .i64 v)∧(v = 0∨(v = 1∨v = 2)∧r ≠ 0)∧Below W.heap.size W w':=by
 obtain ⟨k,v,hf,hv⟩:=width_okP h;refine (QRunsCut.repriseref1_Width.calls k r v W hf).mono ?_;rintro e w' ⟨rfl,hb⟩
 exact ⟨v,rfl,hv,hb⟩
section
variable {P : Program} {ops : Array Oper} {rest : List Oper} {o : Oper} {a : Act} {W : World} {Q : Exit → Act → World → Prop} {n g : Nat} {cs : Array Value} {t : TypeId}
/-- The function's end: the result box is read. -/
theorem bx_ret {fn : Func} {p : Tmp} {ty : TypeId} (hres : fn.results = #[.cell p ty]) {tmps : Array Value} {R : Ending → World → Prop} (b : Bx n t g W cs) (hp : tmps.getD p undef = .pointer (some ⟨g,0,none⟩))
 {d : TypeDesc} (hu : P.underlying ty = some d) (hty : (match d with|.struct _|.array _ _=>true|_=>false) = true) (hi : (P.info? ty).map (·.size) = some cs.size)
 (h : R (.returned (.agg cs)) W) : bodyPost P fn R .ret ⟨tmps,[]⟩ W :=
 bodyPost_ret (results_cell_row hres tmps W g t cs (0,0) d hp b.bx hu hty hi) rfl h
end
theorem in_clamp {n a m r : Int} (hn : 1 ≤ n∧n ≤ 1000) (hm : (if a < 0 then 0 else a) = m) (hr : (if (wrap64 (n - 1)) < m then (wrap64 (n - 1)) else m) = r) : In r n:=by
 have e : wrap64 (n - 1) = n - 1:=by unfold wrap64;omega
 rw [e] at hr;have h0 : 0 ≤ m:=by rw [← hm];split <;> omega
 subst hr;unfold In;split <;> omega
end Go.Proofs.Ytooageeehallbaa.Scr
namespace Go.Proofs.Ytooageeehallbaa.Scr
open Go.RowKit Go.Proofs.YtooageeehallbaaW.PrintWords Go.Proofs.YtooageeehallbaaW.PrintLast Go.Proofs.YtooageeehallbaaW.PrintMore Go.Proofs.Ytooageeehallbaa.QRunsCut
set_option linter.unusedVariables false
set_option linter.unusedSimpArgs false
section
variable {α : Type} {d : Kd α} {e base n t : Nat} {W w1 w0 : World} {ok : Nat → Prop} {v : Value} {xs : List α} {gs : List Nat} {g : Nat} {cs : Array Value} {F : World → (Nat → Prop) → Prop}
theorem mvR : Mvb (fun W ok=>Kd.R d e W base ok v xs) :=
 ⟨fun h hm=>Kd.R_step h hm,fun h hm=>Kd.R_mono h hm,fun h=>Kd.R_mono (Kd.R_bound h) (fun k hk=>⟨hk.1,hk.2.2.1⟩)⟩
/-- A row that was made since: its block is none of the elder facts'. -/
theorem Mvb.callnew (m : Mvb F) (h : F W (Nb ok n gs)) (hb : Below W.heap.size W w1) (hg : W.heap.size ≤ g) : F w1 (Nb ok n (g :: gs)) :=
 m.mono (m.call (m.bound h) hb) (fun k hk=>⟨hk.1.1,by
  intro hm;rcases List.mem_cons.1 hm with he|hm
  ·have:=hk.2;omega
  ·exact hk.1.2 hm⟩)
theorem Mvb.grownnew (m : Mvb F) (h : F W (Nb ok n gs)) (hb : W.grownBy w1 none) (hg : W.heap.size ≤ g) : F w1 (Nb ok n (g :: gs)) :=
 m.mono (m.step (m.bound h) (fun k _ hlt=>hb.block k hlt (by simp))) (fun k hk=>⟨hk.1.1,by
  intro hm;rcases List.mem_cons.1 hm with he|hm
  ·have:=hk.2;omega
  ·exact hk.1.2 hm⟩)
theorem bx_ne (b : Bx n t g W cs) {g' : Nat} (h : W.heap.size ≤ g') : g ≠ g':=by have:=b.lt;omega
theorem R_fresh {N : Nat} (h : Kd.R d e w1 N (fun _=>True) v xs) (hN : N = W.heap.size) (hn : n ≤ W.heap.size) (hgs : ∀ g,g ∈ gs → g < W.heap.size) : Kd.R d e w1 n (Nb ok n gs) v xs :=
 Kd.R_lower (Kd.R_mono (Kd.R_bound h) (fun k hk=>⟨.inr (by have:=hk.2.1;omega),fun hm=>by have:=hgs k hm;have:=hk.2.1;omega⟩)) (by omega)
theorem R_row {c : Nat} {A : Option Addr} {m : Nat} {P : List α → Prop} (h : Kd.R d e W base ok (.slice A m c) xs) (hp : P xs) : Row d ⟨A,m,c⟩ P W ok:=⟨xs,hp,(Kd.R_V h : Kd.V d e W 0 ok (.slice A m c) xs)⟩
theorem R_lt {c m : Nat} (h : Kd.R d e W base ok (.slice (some ⟨g,0,none⟩) m c) xs) : g < W.heap.size:=by
 obtain ⟨inner,ho⟩:=Kd.R_own h;exact own_lt ho g rfl
theorem hb_own (hb : Below n w0 W) (hr : Kd.R d e W n ok (.slice (some ⟨g,0,none⟩) base t) xs) (hg : W.grownBy w1 (some g)) : Below n w0 w1:=by
 obtain ⟨inner,ho⟩:=Kd.R_own hr;have h1 : n ≤ g:=own_base ho g rfl;have h2 : g < W.heap.size:=own_lt ho g rfl;exact hb.grown hg (by omega) (by rintro k h;injection h with h;subst h;exact h1)
end
section
variable {P : Program} {ops : Array Oper} {rest : List Oper} {o : Oper} {a : Act} {W : World} {Q : Exit → Act → World → Prop} {n cap g base : Nat} {ok : Nat → Prop} {xs : List S35}
theorem there_of {α : Type} {d : Kd α} {e : Nat} {xs : List α} (z : α) (HR : d.R e W base ok (.slice (some ⟨g,0,none⟩) n cap) xs) {i : Int} (h0 : 0 ≤ i) (h1 : i < n) : W.there g (i.toNat * d.sz) d.sz:=by
 obtain ⟨c,hcl,_,hcc,hfr⟩:=Kd.R_elem HR z i h0 h1;intro j hj;refine ⟨?_,hfr j⟩;have : j < c.length:=by omega
 rw [hcc j _ (List.getElem?_eq_getElem this)];rfl
theorem row_put3 (HR : Kd.R k35 35 W base ok (.slice (some ⟨g,0,none⟩) n cap) xs) {i : Int} (h0 : 0 ≤ i) (h1 : i < n) (hgd : o.guard = none) (hd : o.dst = none) {x y : Operand} (ho : o.op = .store 35 x y) (hx : a.eval x = .pointer (some ⟨g,i.toNat * 3,none⟩))
 {r at_ h : Int} (hy : a.eval y = .agg #[.int .i32 r,.int .u16 at_,.int .u8 h]) (hi : (P.info? 35).map (·.size) = some 3)
 (K : ∀ w1,W.grownBy w1 (some g) → Kd.R k35 35 w1 base ok (.slice (some ⟨g,0,none⟩) n cap) (xs.set i.toNat ⟨r,at_,h⟩) → wpList P ops Q rest a w1) : wpList P ops Q (o :: rest) a W:=by
 have hth:=there_of z35 HR h0 h1;refine wpList_store_mid hgd 35 x y ho g (i.toNat * 3) #[.int .i32 r,.int .u16 at_,.int .u8 h] hx hy hth hi (by simp [Value.oneCell']) ?_;have hput : a.put o.dst undef = a:=by rw [hd];rfl
 rw [hput];obtain ⟨c,hcl,hM,hcc,hfr⟩:=Kd.R_elem HR z35 i h0 h1;have hcl3 : c.length = 3:=hcl;have hp:=Kd.R_seg HR i h0 h1 (c:=c) (seg:=[.int .i32 r,.int .u16 at_,.int .u8 h]) (j:=0) hcl hcc (show 3 ≤ 3 from by decide) (x':=(⟨r,at_,h⟩ : S35)) (okp:=fun k=>ok k∧k ≠ g)
  (by
   have e1 : c.drop 3 = []:=List.drop_eq_nil_of_le (by omega);simp only [List.take_zero,List.nil_append,List.length_cons,List.length_nil,Nat.reduceAdd,e1,List.append_nil];exact k35_mkM _ _ _ (⟨r,at_,h⟩ : S35)) (fun _ hk=>hk)
 exact K _ hp.2 hp.1
theorem row_put3_run (HR : Kd.R k35 35 W base ok (.slice (some ⟨g,0,none⟩) n cap) xs) {i : Int} (h0 : 0 ≤ i) (h1 : i < n) {x y : Operand} (ho : o.op = .store 35 x y) (hx : a.eval x = .pointer (some ⟨g,i.toNat * 3,none⟩))
 {r at_ h : Int} (hy : a.eval y = .agg #[.int .i32 r,.int .u16 at_,.int .u8 h]) (hi : (P.info? 35).map (·.size) = some 3) :
 ∃ w1,(execOp a.eval o).run P W = .ok .skip w1∧W.grownBy w1 (some g)∧Kd.R k35 35 w1 base ok (.slice (some ⟨g,0,none⟩) n cap) (xs.set i.toNat ⟨r,at_,h⟩):=by
 have hth:=there_of z35 HR h0 h1;obtain ⟨c,hcl,hM,hcc,hfr⟩:=Kd.R_elem HR z35 i h0 h1;have hcl3 : c.length = 3:=hcl;have hp:=Kd.R_seg HR i h0 h1 (c:=c) (seg:=[.int .i32 r,.int .u16 at_,.int .u8 h]) (j:=0) hcl hcc (show 3 ≤ 3 from by decide) (x':=(⟨r,at_,h⟩ : S35)) (okp:=fun k=>ok k∧k ≠ g)
  (by
   have e1 : c.drop 3 = []:=List.drop_eq_nil_of_le (by omega);simp only [List.take_zero,List.nil_append,List.length_cons,List.length_nil,Nat.reduceAdd,e1,List.append_nil];exact k35_mkM _ _ _ (⟨r,at_,h⟩ : S35)) (fun _ hk=>hk)
 refine ⟨_,?_,hp.2,hp.1⟩;unfold execOp;simp only [ho,hx,hy,Instr.storeAt,Instr.sureAddr,Sem.run_bind,Sem.run_pure,Result.andThen_ok,run_storeVar_mid W g (i.toNat * 3) 35 #[.int .i32 r,.int .u16 at_,.int .u8 h] hth hi (by simp [Value.oneCell'])];rfl
theorem row_put3_if {W : World} {K : Act → World → Prop} (HR : Kd.R k35 35 W base ok (.slice (some ⟨g,0,none⟩) n cap) xs) {i : Int} (h0 : 0 ≤ i) (h1 : i < n) (hw : Region.wanted o (yielded ops a.tmps) = true) (hN : o.dst = none) {x y : Operand} (ho : o.op = .store 35 x y) (hx : a.eval x = .pointer (some ⟨g,i.toNat * 3,none⟩))
 {r at_ h : Int} (hy : a.eval y = .agg #[.int .i32 r,.int .u16 at_,.int .u8 h]) (hi : (P.info? 35).map (·.size) = some 3)
 (hK : ∀ w1,W.grownBy w1 (some g) → Kd.R k35 35 w1 base ok (.slice (some ⟨g,0,none⟩) n cap) (xs.set i.toNat ⟨r,at_,h⟩) → K a w1) : if Region.wanted o (yielded ops a.tmps) = true then Oper.wp P o a W K Q else K (a.put none undef) W:=by
 obtain ⟨w1,hrun,hg,hR⟩:=row_put3_run (P:=P) HR h0 h1 ho hx hy hi;exact skip_ hw hN hrun (hK w1 hg hR)
theorem row_half (HR : Kd.R k35 35 W base ok (.slice (some ⟨g,0,none⟩) n cap) xs) {i : Int} (h0 : 0 ≤ i) (h1 : i < n) (hgd : o.guard = none) (hd : o.dst = none) {x y : Operand} (ho : o.op = .store 5 x y) (hx : a.eval x = .pointer (some ⟨g,i.toNat * 3 + 2,none⟩))
 {h : Int} (hy : a.eval y = .int .u8 h) (hi : (P.info? 5).map (·.size) = some 1)
 (K : ∀ w1,W.grownBy w1 (some g) → Kd.R k35 35 w1 base ok (.slice (some ⟨g,0,none⟩) n cap) (xs.set i.toNat ⟨(rd_T35 xs i).f0,(rd_T35 xs i).f1,h⟩) → wpList P ops Q rest a w1) : wpList P ops Q (o :: rest) a W:=by
 obtain ⟨c,hcl,hM,hcc,hfr⟩:=Kd.R_elem HR z35 i h0 h1;obtain rfl:=k35_openM hM;have hcell:=hcc 2 _ rfl;have hfro:=hfr 2;have hst : (store (⟨g,i.toNat * 3 + 2,none⟩ : Addr) (.int .u8 h)).run P W = .ok () (W.setCell ⟨g,i.toNat * 3 + 2,none⟩ (.int .u8 h)):=by
  rw [run_store P W _ _ _ rfl];have e1 : W.cell? ⟨g,i.toNat * 3 + 2,none⟩ = _:=hcell;have e2 : W.frozen? ⟨g,i.toNat * 3 + 2,none⟩ = false:=hfro;rw [e1,e2];rfl
 have hadd : (⟨g,i.toNat * 3 + 2,none⟩ : Addr).add 0 = ⟨g,i.toNat * 3 + 2,none⟩:=by unfold Addr.add;split <;> simp_all
 have hp:=Kd.R_seg HR i h0 h1 (seg:=[.int .u8 h]) (j:=2) hcl hcc (show 2 + 1 ≤ 3 from by decide) (x':=(⟨(rd_T35 xs i).f0,(rd_T35 xs i).f1,h⟩ : S35)) (okp:=fun k=>ok k∧k ≠ g) (k35_mkM _ _ _ (⟨(rd_T35 xs i).f0,(rd_T35 xs i).f1,h⟩ : S35)) (fun _ hk=>hk);have hk:=K _ hp.2 hp.1;cases hq : P.info? 5 with
|none=>simp [hq] at hi
|some i5 =>
  have hsz : i5.size = 1:=by simpa [hq] using hi
  have hsv : (storeVar 5 (⟨g,i.toNat * 3 + 2,none⟩ : Addr) (.int .u8 h)).run P W = .ok () (W.setCell ⟨g,i.toNat * 3 + 2,none⟩ (.int .u8 h)):=by
   simp [storeVar,sizeOf,typeInfo,hq,hsz,Value.cells,storeCells,hadd,hst]
  refine wpList_plain hgd fun K2 hK2=>?_
  unfold Oper.wp execOp;simp only [ho,hx,hy,Instr.storeAt,Instr.sureAddr,Sem.run_bind,Sem.run_pure,Result.andThen_ok,hsv];show K2 (a.put o.dst undef) _
  have hput : a.put o.dst undef = a:=by rw [hd];rfl
  rw [hput];exact hK2 _ _ hk
theorem row_putb {bs : List Bool} (HR : Kd.R Kd.bool 4 W base ok (.slice (some ⟨g,0,none⟩) n cap) bs) {i : Int} (h0 : 0 ≤ i) (h1 : i < n) (hgd : o.guard = none) (hd : o.dst = none) {x y : Operand} (ho : o.op = .store 4 x y) (hx : a.eval x = .pointer (some ⟨g,i.toNat,none⟩))
 {h : Bool} (hy : a.eval y = .bool h) (hi : (P.info? 4).map (·.size) = some 1)
 (K : ∀ w1,W.grownBy w1 (some g) → Kd.R Kd.bool 4 w1 base ok (.slice (some ⟨g,0,none⟩) n cap) (bs.set i.toNat h) → wpList P ops Q rest a w1) : wpList P ops Q (o :: rest) a W:=by
 obtain ⟨hn,_⟩:=Kd.R_reads' HR;have HR':=HR;rw [hn] at HR';obtain ⟨hcell,hfro⟩:=Kd.R_cell false HR' i h0 (by omega);have hst : (store (⟨g,i.toNat,none⟩ : Addr) (.bool h)).run P W = .ok () (W.setCell ⟨g,i.toNat,none⟩ (.bool h)):=by
  rw [run_store P W _ _ _ rfl,hcell,hfro];rfl
 have hadd : (⟨g,i.toNat,none⟩ : Addr).add 0 = ⟨g,i.toNat,none⟩:=by unfold Addr.add;split <;> simp_all
 have hp:=Kd.R_putg HR i h;have hk:=K _ hp.2 hp.1;cases hq : P.info? 4 with
|none=>simp [hq] at hi
|some i5 =>
  have hsz : i5.size = 1:=by simpa [hq] using hi
  have hsv : (storeVar 4 (⟨g,i.toNat,none⟩ : Addr) (.bool h)).run P W = .ok () (W.setCell ⟨g,i.toNat,none⟩ (.bool h)):=by
   simp [storeVar,sizeOf,typeInfo,hq,hsz,Value.cells,storeCells,hadd,hst]
  refine wpList_plain hgd fun K2 hK2=>?_
  unfold Oper.wp execOp;simp only [ho,hx,hy,Instr.storeAt,Instr.sureAddr,Sem.run_bind,Sem.run_pure,Result.andThen_ok,hsv];show K2 (a.put o.dst undef) _
  have hput : a.put o.dst undef = a:=by rw [hd];rfl
  rw [hput];exact hK2 _ _ hk
theorem one35 : (Try.prog.info? 35).map (·.size) = some 3:=by kernel_rfl
end
end Go.Proofs.Ytooageeehallbaa.Scr
