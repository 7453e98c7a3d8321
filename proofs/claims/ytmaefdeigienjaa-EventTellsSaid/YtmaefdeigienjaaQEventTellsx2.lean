/- Lean functions for the Go functions that the law reaches, and proofs that each call comes to just what its Lean function tells; no condition. (Written by a program of this session.) -/
import Derived.Test.YtmaefdeigienjaaQEventTellsx0
namespace Go.Proofs.Ytmaefdeigienjaa.QEventTells
open Go.RowKit Go.Proofs.YtmaefdeigienjaaW.PrintWords Go.Proofs.YtmaefdeigienjaaW.PrintLast Go.Proofs.YtmaefdeigienjaaW.PrintMore
attribute [local go_sem] max2_int min2_int max_two min_two max_three min_three max_four min_four   -- for this text's walks alone
set_option linter.unusedVariables false
set_option linter.unusedSimpArgs false
/-! ### leb_Put: function 41 -/
def leb_Put.l0 : Nat → Int → List Int → Option (List Int)
|0,_,_=>none
|k + 1,x0,x3=>if x0 ≥ 128 then (if x3.length < 140737488355328 then (leb_Put.l0 k (x0 / 128) (x3 ++ [Go.bits .or .u8 ((x0) % 256) 128])) else (none)) else (if x3.length < 140737488355328 then (some (x3 ++ [(x0) % 256])) else (none))
def leb_Put.f (k : Nat) (a0 : Int) : Option (List Int):=leb_Put.l0 k a0 ([] : List Int)
theorem leb_Put.mono_l : ∀ k,(∀ y0 y1,LeO (leb_Put.l0 k y0 y1) (leb_Put.l0 (k + 1) y0 y1))
|0=>fun _ _ r h=>by simp [leb_Put.l0] at h
|k + 1=>by
  have ih0:=leb_Put.mono_l k
  ·intro y0 y1;unfold leb_Put.l0;repeat' first
  |(with_reducible exact ih0 _ _)
  |(with_reducible exact LeO.refl _)
  |(with_reducible exact LeO.none _)
  |(with_reducible refine LeO.ite ?_ ?_)
  |(with_reducible refine LeO.bind ?_ (fun _=>?_))
  |exact ih0 _ _
  |exact LeO.none _
  |refine LeO.ite ?_ ?_
  |refine LeO.bind ?_ (fun _=>?_)
theorem leb_Put.mono : ∀ a0 k,LeO (leb_Put.f k a0) (leb_Put.f (k + 1) a0):=by
 intro a0 k;have ih0:=leb_Put.mono_l k;unfold leb_Put.f;repeat' first
 |(with_reducible exact ih0 _ _)
 |(with_reducible exact LeO.refl _)
 |(with_reducible exact LeO.none _)
 |(with_reducible refine LeO.ite ?_ ?_)
 |(with_reducible refine LeO.bind ?_ (fun _=>?_))
 |exact ih0 _ _
 |exact LeO.none _
 |refine LeO.ite ?_ ?_
 |refine LeO.bind ?_ (fun _=>?_)
set_option maxHeartbeats 8000000 in
set_option maxRecDepth 100000 in
theorem leb_Put.calls (k : Nat) (a0 : Int) (r : List Int) (w : World) (h : leb_Put.f k a0 = some r) :
 Calls Try.prog 41 #[.int .u64 a0] w fun e w'=>∃ v0_ : Value,e = .returned (v0_)∧Kd.R (Kd.int .u8) 5 w' w.heap.size (fun _=>True) v0_ r∧Below w.heap.size w w':=by
 have HB:=zt (Below.refl w.heap.size w);have H : (leb_Put.l0 k a0 ([] : List Int)) = some r:=h;clear h;have H':=zt H;clear H;go_enter Try.func41,Try.ntmps41
 go_wp2;go_loopg [0,3] k (fun kq v0 v3 w'=>∃ (x0_1 : Int) (x3_1 : List Int),v0 = .int .u64 x0_1∧Aside0 (leb_Put.l0 kq x0_1 x3_1 = some r)∧Aside0 (kq ≤ k)∧Aside0 (Kd.R (Kd.int .u8) 5 w' w.heap.size (fun _=>True) v3 x3_1)∧Aside0 (Below w.heap.size w w'))
 case atStart=>exact ⟨(a0),(([] : List Int)),(by first|rfl|(simp;done)|(simp [*];done)),H',⟨Nat.le_refl _⟩,⟨by first|exact Kd.R_nil _ _ _ _ _|exact Kd.N_nil _ _ _ _ _|exact Kd.V_nil _ _ _ _ _|exact Kd.Q_nil _ _ _ _ _|exact Kd.S_nil _ _ _ _ _⟩,⟨by repeat (first|(with_reducible first|exact HB.out|apply zg|apply zh|apply zi)|exact HB.out)⟩⟩
 case round =>
  clear H';obtain ⟨x0_1,x3_1,rfl,HA,HK1,HO_3,HB⟩:=hrel;cases gk with
 |zero=>exact absurd HA.out (by simp [leb_Put.l0])
 |succ k1 =>
   have H:=HA.out;clear HA;simp only [leb_Put.l0] at H;by_cases c2 : x0_1 ≥ 128
   ·rw [if_pos c2] at H;have c2b0 : decide (128 ≤ x0_1) = true:=decide_eq_true c2;clear c2;by_cases c3 : x3_1.length < 140737488355328
    ·rw [if_pos c3] at H;have LMc3:=zt c3;clear c3;obtain ⟨y104,hy104⟩ : ∃ y_ : List Int,y_ = (x3_1 ++ [Go.bits .or .u8 ((x0_1) % 256) 128]):=⟨_,rfl⟩;replace H : (leb_Put.l0 k1 (x0_1 / 128) y104) = some r:=by first|(rw [hy104];with_reducible exact H)|(have H2_:=(Option.bind_some _ _).symm.trans H;rw [hy104];with_reducible exact H2_)|(have H2_:=(Option.bind_some _ _).symm.trans H;with_reducible exact H2_)|with_reducible exact H|(rw [hy104];exact H)|exact H
     have Ny104:=zt hy104;clear hy104;have H':=zt H;clear H;go_wp2_with (first|((with_reducible refine gate_builtin (b:=.append) (xs:=#[.tmp 6,.tmp 10]) rfl ?_);at_builtin;refine Kd.R_append (Kd.int .u8) (w0:=w) w.heap.size rfl (.tmp 6) (.tmp 10) 22 5 (.int .u8 0) 1 rfl Try.underlying22 info5 rfl (by decide) (by omega) u3 x3_1 (Go.bits .or .u8 ((x0_1) % 256) 128) [.int .u8 (Go.bits .or .u8 ((x0_1) % 256) 128)] (fun _=>True) (fun _=>False) rfl rfl ?aP (fun _ hk=>hk.elim) ?aF ?aO ?aB ?aS ?aL ?_;(case aP=>exact rfl);(case aB=>exact (by repeat (first|(with_reducible first|exact HB.out|apply zg|apply zh|apply zi)|exact HB.out)));(case aF=>exact (fun _ _=>trivial));(case aO=>exact (by (with_reducible repeat (first|apply zk|apply zl|apply zm));exact HO_3.out));(case aS=>exact (below_size (by repeat (first|(with_reducible first|exact HB.out|apply zg|apply zh|apply zi)|exact HB.out))));(case aL=>have:=LMc3.out;omega);intro v105 w4 ho hb hg hat;rw [← Ny104.out] at ho;have n0_:=zt (hb);have n1_:=zt (ho);clear HB;clear HO_3;have HB:=n0_;have HO106:=n1_;clear n0_ n1_;clear ho hb hg hat));go_roundg k1
     case measure=>have:=HK1.out;omega
     case rel=>exact ⟨(x0_1 / 128),(y104),(by first|rfl|(simp;done)|(simp [*];done)),H',⟨by have:=HK1.out;omega⟩,⟨by (with_reducible repeat (first|apply zk|apply zl|apply zm));exact HO106.out⟩,⟨by repeat (first|(with_reducible first|exact HB.out|apply zg|apply zh|apply zi)|exact HB.out)⟩⟩
    ·rw [if_neg c3] at H;exact absurd H (by simp)
   ·rw [if_neg c2] at H;have c2b0 : decide (128 ≤ x0_1) = false:=decide_eq_false c2;clear c2;by_cases c5 : x3_1.length < 140737488355328
    ·rw [if_pos c5] at H;have LMc5:=zt c5;clear c5;obtain ⟨y107,hy107⟩ : ∃ y_ : List Int,y_ = (x3_1 ++ [(x0_1) % 256]):=⟨_,rfl⟩;replace H : (some y107) = some r:=by first|(rw [hy107];with_reducible exact H)|(have H2_:=(Option.bind_some _ _).symm.trans H;rw [hy107];with_reducible exact H2_)|(have H2_:=(Option.bind_some _ _).symm.trans H;with_reducible exact H2_)|with_reducible exact H|(rw [hy107];exact H)|exact H
     have Ny107:=zt hy107;clear hy107;obtain rfl:=Option.some.inj H;go_wp2_with (first|((with_reducible refine gate_builtin (b:=.append) (xs:=#[.tmp 14,.tmp 17]) rfl ?_);at_builtin;refine Kd.R_append (Kd.int .u8) (w0:=w) w.heap.size rfl (.tmp 14) (.tmp 17) 22 5 (.int .u8 0) 1 rfl Try.underlying22 info5 rfl (by decide) (by omega) u3 x3_1 ((x0_1) % 256) [.int .u8 ((x0_1) % 256)] (fun _=>True) (fun _=>False) rfl rfl ?aP (fun _ hk=>hk.elim) ?aF ?aO ?aB ?aS ?aL ?_;(case aP=>exact rfl);(case aB=>exact (by repeat (first|(with_reducible first|exact HB.out|apply zg|apply zh|apply zi)|exact HB.out)));(case aF=>exact (fun _ _=>trivial));(case aO=>exact (by (with_reducible repeat (first|apply zk|apply zl|apply zm));exact HO_3.out));(case aS=>exact (below_size (by repeat (first|(with_reducible first|exact HB.out|apply zg|apply zh|apply zi)|exact HB.out))));(case aL=>have:=LMc5.out;omega);intro v108 w6 ho hb hg hat;rw [← Ny107.out] at ho;have n0_:=zt (hb);have n1_:=zt (ho);clear HB;clear HO_3;have HB:=n0_;have HO109:=n1_;clear n0_ n1_;clear ho hb hg hat));go_ret;exact ⟨_,by first|rfl|(simp [errW_none,errW_some] <;> rfl)|(simp [*,errW_none,errW_some] <;> rfl),by (with_reducible repeat (first|apply zk|apply zl|apply zm));exact HO109.out,by repeat (first|(with_reducible first|exact HB.out|apply zg|apply zh|apply zi)|exact HB.out)⟩
    ·rw [if_neg c5] at H;exact absurd H (by simp)
/-! ### leb_PutBytes: function 42 -/
def leb_PutBytes.f (k : Nat) (l0 : List Int) : Option (List Int):=(leb_Put.f k (IntKind.u64.wrap ((l0.length : Int)))).bind fun t110=>(if t110.length + l0.length < 140737488355328 then (some (t110 ++ l0)) else (none))
theorem leb_PutBytes.mono : ∀ a0 k,LeO (leb_PutBytes.f k a0) (leb_PutBytes.f (k + 1) a0):=by
 intro a0 k;unfold leb_PutBytes.f;repeat' first
 |(with_reducible exact leb_Put.mono _ _)
 |(with_reducible exact LeO.refl _)
 |(with_reducible exact LeO.none _)
 |(with_reducible refine LeO.ite ?_ ?_)
 |(with_reducible refine LeO.bind ?_ (fun _=>?_))
 |exact leb_Put.mono _ _
 |exact LeO.none _
 |refine LeO.ite ?_ ?_
 |refine LeO.bind ?_ (fun _=>?_)
set_option maxHeartbeats 8000000 in
set_option maxRecDepth 100000 in
theorem leb_PutBytes.calls (k : Nat) (A0 : Option Addr) (c0 : Nat) (l0 : List Int) (r : List Int) (w : World) (hr0 : Kd.C (Kd.int .u8) w A0 l0.length l0) (hc0 : l0.length ≤ c0) (h : leb_PutBytes.f k l0 = some r) :
 Calls Try.prog 42 #[.slice A0 l0.length c0] w fun e w'=>∃ v0_ : Value,e = .returned (v0_)∧Kd.R (Kd.int .u8) 5 w' w.heap.size (fun _=>True) v0_ r∧Below w.heap.size w w':=by
 have HR0:=zt hr0;have HC0:=zt hc0;clear hr0 hc0;have HB:=zt (Below.refl w.heap.size w);have H : ((leb_Put.f k (IntKind.u64.wrap ((l0.length : Int)))).bind fun t110=>(if t110.length + l0.length < 140737488355328 then (some (t110 ++ l0)) else (none))) = some r:=h;clear h;replace H:=Option.bind_eq_some_iff.mp H;obtain ⟨t110,A20,H⟩:=H;replace H : (if t110.length + l0.length < 140737488355328 then (some (t110 ++ l0)) else (none)) = some r:=H;have A2:=zt A20;clear A20;by_cases c3 : t110.length + l0.length < 140737488355328
 ·rw [if_pos c3] at H;have LMc3:=zt c3;clear c3;obtain ⟨y113,hy113⟩ : ∃ y_ : List Int,y_ = (t110 ++ l0):=⟨_,rfl⟩;replace H : (some y113) = some r:=by first|(rw [hy113];with_reducible exact H)|(have H2_:=(Option.bind_some _ _).symm.trans H;rw [hy113];with_reducible exact H2_)|(have H2_:=(Option.bind_some _ _).symm.trans H;with_reducible exact H2_)|with_reducible exact H|(rw [hy113];exact H)|exact H
  have Ny113:=zt hy113;clear hy113;obtain rfl:=Option.some.inj H;go_enter Try.func42,Try.ntmps42
  go_wp2_with (first|((with_reducible refine gate_callee (f:=41) rfl ?_);refine goesL_ (some 6) rfl rfl Try.func41 (by kernel_rfl) rfl #[.int .u64 (IntKind.u64.wrap ((l0.length : Int)))] rfl (by (try simp only [List.map_toArray,List.map_cons,List.map_nil]);first|done|rfl|(simp only [List.length_drop,List.length_take];rfl)) ?_;(with_reducible refine (leb_Put.calls k (IntKind.u64.wrap ((l0.length : Int))) t110 _ A2.out).mono ?_);rintro e w4 ⟨v111,rfl,ho0,hb⟩;refine ⟨_,rfl,?_⟩;have n0_:=zt (Kd.R_lower ho0 (below_size (by repeat (first|(with_reducible first|exact HB.out|apply zg|apply zh|apply zi)|exact HB.out))));have n1_:=zt (below_step (by repeat (first|(with_reducible first|exact HB.out|apply zg|apply zh|apply zi)|exact HB.out)) hb);clear HB;have HO112:=n0_;have HB:=n1_;clear n0_ n1_;(try clear hb);(try clear hb2);(try clear hk);(try clear hi);(try clear ho0))|((with_reducible refine gate_builtin (b:=.append) (xs:=#[.tmp 6,.tmp 7]) rfl ?_);at_builtin;refine Kd.R_append_rows (Kd.int .u8) (w0:=w) w.heap.size rfl (.tmp 6) (.tmp 7) 22 5 (.int .u8 0) 1 rfl Try.underlying22 info5 rfl (by decide) (by omega) v111 t110 l0 _ _ _ (fun _=>True) (fun _=>False) rfl rfl ?aO ?aR (fun _ _ h=>h) (fun _ h=>h.elim) ?aF ?aB ?aS ?aL ?_;(case aR=>repeat (first|exact (Kd.C_below HR0.out HB.out)|(with_reducible refine Kd.C_alloc ?_ _)|(with_reducible refine Kd.C_drewN ?_ _)|(with_reducible refine Kd.C_drew ?_)));(case aB=>exact (by repeat (first|(with_reducible first|exact HB.out|apply zg|apply zh|apply zi)|exact HB.out)));(case aF=>exact (fun _ _=>trivial));(case aO=>exact (by (with_reducible repeat (first|apply zk|apply zl|apply zm));exact HO112.out));(case aS=>exact (below_size (by repeat (first|(with_reducible first|exact HB.out|apply zg|apply zh|apply zi)|exact HB.out))));(case aL=>have:=LMc3.out;omega);intro v114 w5 ho hb hg hat;rw [← Ny113.out] at ho;have n0_:=zt (hb);have n1_:=zt (ho);clear HB;clear HO112;have HB:=n0_;have HO115:=n1_;clear n0_ n1_;clear ho hb hg hat));go_ret;exact ⟨_,by first|rfl|(simp [errW_none,errW_some] <;> rfl)|(simp [*,errW_none,errW_some] <;> rfl),by (with_reducible repeat (first|apply zk|apply zl|apply zm));exact HO115.out,by repeat (first|(with_reducible first|exact HB.out|apply zg|apply zh|apply zi)|exact HB.out)⟩
 ·rw [if_neg c3] at H;exact absurd H (by simp)
end Go.Proofs.Ytmaefdeigienjaa.QEventTells
