/- Parts of the claim's proof, merged; no condition beyond what each theorem states. -/
import Derived.Test.YtooageeehallbaaG1
namespace Go.Proofs.Ytooageeehallbaa
open Go Go.RowKit Go.Proofs.YtooageeehallbaaW.PrintWords Go.Proofs.YtooageeehallbaaW.PrintLast Go.Proofs.YtooageeehallbaaW.PrintMore
abbrev zX := @Option.bind_some
end Go.Proofs.Ytooageeehallbaa
namespace Go.Proofs.Ytooageeehallbaa.QRunsCut
open Go.RowKit Go.Proofs.YtooageeehallbaaW.PrintWords Go.Proofs.YtooageeehallbaaW.PrintLast Go.Proofs.YtooageeehallbaaW.PrintMore
attribute [local go_sem] max2_int min2_int max_two min_two max_three min_three max_four min_four 
set_option linter.unusedVariables false
set_option linter.unusedSimpArgs false
/-! ### repriseref7_formed: function 61 -/
def repriseref7_formed.f (l0 : List Int) (a1 : Int) : Option (Bool):=if (l0.length : Int) = 2 then (if 0 < (l0.length : Int) then (if (rd l0 0) = 239 then (if 1 < (l0.length : Int) then (if (rd l0 1) = 191 then (some (a1 == 189)) else (some false)) else (none)) else (some false)) else (none)) else (some false)
set_option maxHeartbeats 8000000 in
set_option maxRecDepth 100000 in
theorem repriseref7_formed.calls (A0 : Option Addr) (c0 : Nat) (l0 : List Int) (a1 : Int) (r : Bool) (w : World) (hr0 : Kd.C (Kd.int .u8) w A0 l0.length l0) (hc0 : l0.length ≤ c0) (h : repriseref7_formed.f l0 a1 = some r) :
 Calls Try.prog 61 #[.slice A0 l0.length c0,.int .u8 a1] w fun e w'=>e = .returned (.bool r)∧Drawn0 w w':=by
 have HR0:=zA hr0;have HC0:=zA hc0;clear hr0 hc0;have H : (if (l0.length : Int) = 2 then (if 0 < (l0.length : Int) then (if (rd l0 0) = 239 then (if 1 < (l0.length : Int) then (if (rd l0 1) = 191 then (some (a1 == 189)) else (some false)) else (none)) else (some false)) else (none)) else (some false)) = some r:=h;clear h;by_cases c3 : (l0.length : Int) = 2
 ·rw [if_pos c3] at H;have c3b0 : ((l0.length : Int) == 2) = true:=beq_iff_eq.mpr c3;have c3b1 : ((l0.length : Int) != 2) = false:=bne_eq_false_iff_eq.mpr c3;clear c3;by_cases c4 : 0 < (l0.length : Int)
  ·rw [if_pos c4] at H;have c4b0 : decide (0 < (l0.length : Int)) = true:=zC c4;have c4b1 : decide (0 < l0.length) = true:=zC (by omega);clear c4;by_cases c5 : (rd l0 0) = 239
   ·rw [if_pos c5] at H;have c5b0 : ((rd l0 0) == 239) = true:=beq_iff_eq.mpr c5;have c5b1 : ((rd l0 0) != 239) = false:=bne_eq_false_iff_eq.mpr c5;clear c5;by_cases c6 : 1 < (l0.length : Int)
    ·rw [if_pos c6] at H;have c6b0 : decide (1 < (l0.length : Int)) = true:=zC c6;have c6b1 : decide (1 < l0.length) = true:=zC (by omega);clear c6;by_cases c7 : (rd l0 1) = 191
     ·rw [if_pos c7] at H;have c7b0 : ((rd l0 1) == 191) = true:=beq_iff_eq.mpr c7;have c7b1 : ((rd l0 1) != 191) = false:=bne_eq_false_iff_eq.mpr c7;clear c7;obtain rfl:=zY H;have p162 : 0 ≤ (0 : Int):=(by omega);have q162 : 0 < (l0.length : Int):=od;obtain ⟨ad162,e162,hx162_0⟩:=Kd.at_int HR0.out 0 p162 q162;cases e162;have qi162 : (0 < l0.length) = True:=eq_true (by omega);(try rw [show ((0 : Int)).toNat = 0 from rfl] at hx162_0);(try rw [Addr.add_zero'] at hx162_0);replace p162:=eq_true p162;replace q162:=eq_true q162;have p163 : 0 ≤ (1 : Int):=(by omega);have q163 : 1 < (l0.length : Int):=od;obtain ⟨ad163,e163,hx163_0⟩:=Kd.at_int HR0.out 1 p163 q163;obtain rfl : ad162 = ad163:=(by injection e163);(try simp only [show (1 : Int).toNat = 1 from rfl,Nat.reduceMul,Nat.reduceEqDiff,Go.Addr.add,↓reduceIte] at hx163_0);have qi163 : (1 < l0.length) = True:=eq_true (by omega);replace p163:=eq_true p163;replace q163:=eq_true q163;go_enter Try.func61,Try.ntmps61
      go_wp2;go_ret;exact ⟨by rfl,by exact Drawn0.refl _⟩
     ·rw [if_neg c7] at H;have c7b0 : ((rd l0 1) == 191) = false:=beq_eq_false_iff_ne.mpr c7;have c7b1 : ((rd l0 1) != 191) = true:=bne_iff_ne.mpr c7;obtain rfl:=zY H;have p162 : 0 ≤ (0 : Int):=(by omega);have q162 : 0 < (l0.length : Int):=od;obtain ⟨ad162,e162,hx162_0⟩:=Kd.at_int HR0.out 0 p162 q162;cases e162;have qi162 : (0 < l0.length) = True:=eq_true (by omega);(try rw [show ((0 : Int)).toNat = 0 from rfl] at hx162_0);(try rw [Addr.add_zero'] at hx162_0);replace p162:=eq_true p162;replace q162:=eq_true q162;have p163 : 0 ≤ (1 : Int):=(by omega);have q163 : 1 < (l0.length : Int):=od;obtain ⟨ad163,e163,hx163_0⟩:=Kd.at_int HR0.out 1 p163 q163;obtain rfl : ad162 = ad163:=(by injection e163);(try simp only [show (1 : Int).toNat = 1 from rfl,Nat.reduceMul,Nat.reduceEqDiff,Go.Addr.add,↓reduceIte] at hx163_0);have qi163 : (1 < l0.length) = True:=eq_true (by omega);replace p163:=eq_true p163;replace q163:=eq_true q163;go_enter Try.func61,Try.ntmps61
      go_wp2;go_ret;exact ⟨by rfl,by exact Drawn0.refl _⟩
    ·rw [if_neg c6] at H;exact absurd H (by simp)
   ·rw [if_neg c5] at H;have c5b0 : ((rd l0 0) == 239) = false:=beq_eq_false_iff_ne.mpr c5;have c5b1 : ((rd l0 0) != 239) = true:=bne_iff_ne.mpr c5;obtain rfl:=zY H;have p162 : 0 ≤ (0 : Int):=(by omega);have q162 : 0 < (l0.length : Int):=od;obtain ⟨ad162,e162,hx162_0⟩:=Kd.at_int HR0.out 0 p162 q162;cases e162;have qi162 : (0 < l0.length) = True:=eq_true (by omega);(try rw [show ((0 : Int)).toNat = 0 from rfl] at hx162_0);(try rw [Addr.add_zero'] at hx162_0);replace p162:=eq_true p162;replace q162:=eq_true q162;go_enter Try.func61,Try.ntmps61
    go_wp2;go_ret;exact ⟨by rfl,by exact Drawn0.refl _⟩
  ·rw [if_neg c4] at H;exact absurd H (by simp)
 ·rw [if_neg c3] at H;have c3b0 : ((l0.length : Int) == 2) = false:=beq_eq_false_iff_ne.mpr c3;have c3b1 : ((l0.length : Int) != 2) = true:=bne_iff_ne.mpr c3;obtain rfl:=zY H;go_enter Try.func61,Try.ntmps61
  go_wp2;go_ret;exact ⟨by rfl,by exact Drawn0.refl _⟩
/-! ### repriseref7_prints: function 62 -/
def repriseref7_prints.l0 : Nat → List Int → List (S87) → Int → Option ((List (S87)))
|0,_,_,_=>none
|k + 1,x0,x3,x4=>if x4 < (x0.length : Int) then (if 0 ≤ x4 then (if x3.length < 2199023255552 then (repriseref7_prints.l0 k x0 (x3 ++ [(⟨0,rd x0 x4,0,0,([] : List Int),([] : List Int)⟩ : S87)]) (wrap64 (x4 + 1))) else (none)) else (none)) else (some x3)
def repriseref7_prints.f (k : Nat) (l0 : List Int) : Option ((List (S87))):=repriseref7_prints.l0 k l0 ([] : List (S87)) 0
theorem repriseref7_prints.mono_l : ∀ k,(∀ y0 y1 y2,LeO (repriseref7_prints.l0 k y0 y1 y2) (repriseref7_prints.l0 (k + 1) y0 y1 y2))
|0=>fun _ _ _ r h=>by simp [repriseref7_prints.l0] at h
|k + 1=>by
  have ih0:=repriseref7_prints.mono_l k
  ·intro y0 y1 y2;unfold repriseref7_prints.l0;repeat' first
  |(with_reducible exact ih0 _ _ _)
  |(with_reducible exact LeO.refl _)
  |(with_reducible exact LeO.none _)
  |(with_reducible refine LeO.ite ?_ ?_)
  |(with_reducible refine LeO.bind ?_ (fun _=>?_))
  |exact ih0 _ _ _
  |exact LeO.none _
  |refine LeO.ite ?_ ?_
  |refine LeO.bind ?_ (fun _=>?_)
theorem repriseref7_prints.mono : ∀ a0 k,LeO (repriseref7_prints.f k a0) (repriseref7_prints.f (k + 1) a0):=by
 intro a0 k;have ih0:=repriseref7_prints.mono_l k;unfold repriseref7_prints.f;repeat' first
 |(with_reducible exact ih0 _ _ _)
 |(with_reducible exact LeO.refl _)
 |(with_reducible exact LeO.none _)
 |(with_reducible refine LeO.ite ?_ ?_)
 |(with_reducible refine LeO.bind ?_ (fun _=>?_))
 |exact ih0 _ _ _
 |exact LeO.none _
 |refine LeO.ite ?_ ?_
 |refine LeO.bind ?_ (fun _=>?_)
set_option maxHeartbeats 8000000 in
set_option maxRecDepth 100000 in
theorem repriseref7_prints.calls (k : Nat) (A0 : Option Addr) (c0 : Nat) (l0 : List Int) (r : List (S87)) (w : World) (hr0 : Kd.C (Kd.int .i32) w A0 l0.length l0) (hc0 : l0.length ≤ c0) (h : repriseref7_prints.f k l0 = some r) :
 Calls Try.prog 62 #[.slice A0 l0.length c0] w fun e w'=>∃ v0_ : Value,e = .returned (v0_)∧Kd.S k87 87 w' w.heap.size (fun _=>True) v0_ r∧Below w.heap.size w w':=by
 have hu87:=Try.underlying87;have HR0:=zA hr0;have HC0:=zA hc0;clear hr0 hc0;have HB:=zA (zE w.heap.size w);have H : (repriseref7_prints.l0 k l0 ([] : List (S87)) 0) = some r:=h;clear h;have H':=zA H;clear H;go_enter Try.func62,Try.ntmps62
 go_wp2;go_loopg [3,4] k (fun kq v3 v4 w'=>∃ (x3_1 : List (S87)) (x4_1 : Int),v4 = .int .i64 x4_1∧Aside0 (repriseref7_prints.l0 kq l0 x3_1 x4_1 = some r)∧Aside0 (kq ≤ k)∧Aside0 (Kd.S k87 87 w' w.heap.size (fun _=>True) v3 x3_1)∧Aside0 (Below w.heap.size w w'))
 case atStart=>exact ⟨(([] : List (S87))),(0),(by rfl),H',⟨Nat.le_refl _⟩,⟨by exact Kd.S_nil _ _ _ _ _⟩,⟨HB.out⟩⟩
 case round =>
  clear H';obtain ⟨x3_1,x4_1,rfl,HA,HK1,HO_3,HB⟩:=hrel;cases gk with
 |zero=>exact absurd HA.out (by simp [repriseref7_prints.l0])
 |succ k1 =>
   have H:=HA.out;clear HA;simp only [repriseref7_prints.l0] at H;by_cases c2 : x4_1 < (l0.length : Int)
   ·rw [if_pos c2] at H;have c2b0 : decide (x4_1 < (l0.length : Int)) = true:=zC c2;clear c2;by_cases c3 : 0 ≤ x4_1
    ·rw [if_pos c3] at H;have c3b0 : decide (0 ≤ x4_1) = true:=zC c3;clear c3;by_cases c4 : x3_1.length < 2199023255552
     ·rw [if_pos c4] at H;have LMc4:=zA c4;clear c4;obtain ⟨y165,hy165⟩ : ∃ y_ : List (S87),y_ = (x3_1 ++ [(⟨0,rd l0 x4_1,0,0,([] : List Int),([] : List Int)⟩ : S87)]):=⟨_,rfl⟩;replace H : (repriseref7_prints.l0 k1 l0 y165 (wrap64 (x4_1 + 1))) = some r:=by (rw [hy165];with_reducible exact H)
      have Ny165:=zA hy165;clear hy165;have H':=zA H;clear H;have p164 : 0 ≤ (x4_1 : Int):=od;have q164 : x4_1 < (l0.length : Int):=od;obtain ⟨ad164,e164,hx164_0⟩:=Kd.at_int HR0.out x4_1 p164 q164;cases e164;replace hx164_0:=cx HB hx164_0;replace p164:=eq_true p164;replace q164:=eq_true q164;go_wp2_with (((with_reducible refine gate_builtin (b:=.append) (xs:=#[.tmp 11,.tmp 17]) rfl ?_);at_builtin;refine Kd.S_append k87 (w0:=w) w.heap.size rfl (.tmp 11) (.tmp 17) 82 87 (.agg #[(.int .i64 0),(.int .i32 0),(.int .u8 0),(.int .u8 0),(.slice none 0 0),(.slice none 0 0)]) 64 rfl Try.underlying82 info87 rfl (by decide) (by omega) u3 x3_1 (⟨0,rd l0 x4_1,0,0,([] : List Int),([] : List Int)⟩ : S87) [.int .i64 0,.int .i32 (rd l0 x4_1),.int .u8 0,.int .u8 0,.slice none 0 0,.slice none 0 0] (fun _=>True) (fun _=>False) rfl rfl ?aP (fun k_ hk_=>hk_.elim) ?aF ?aO ?aB ?aS ?aL ?_;(case aP=>exact k87_mkM _ _ _ (⟨0,rd l0 x4_1,0,0,([] : List Int),([] : List Int)⟩ : S87) (Kd.R_nil _ _ _ _ _) (Kd.R_nil _ _ _ _ _));(case aB=>exact HB.out);(case aF=>exact (fun _ _=>trivial));(case aO=>exact (by exact Kd.S_mono HO_3.out (fun k_ hk=>⟨trivial,fun e_=>e_⟩)));(case aS=>exact (below_size HB.out));(case aL=>have:=LMc4.out;omega);intro v166 w5 ho hb hg hat;rw [← Ny165.out] at ho;have n0_:=zA (hb);have n1_:=zA (ho);clear HB;clear HO_3;have HB:=n0_;have HO167:=n1_;clear n0_ n1_;clear ho hb hg hat));go_roundg k1
      case measure=>have:=HK1.out;omega
      case rel=>exact ⟨(y165),(wrap64 (x4_1 + 1)),(by rfl),H',⟨by have:=HK1.out;omega⟩,⟨HO167.out⟩,⟨HB.out⟩⟩
     ·rw [if_neg c4] at H;exact absurd H (by simp)
    ·rw [if_neg c3] at H;exact absurd H (by simp)
   ·rw [if_neg c2] at H;have c2b0 : decide (x4_1 < (l0.length : Int)) = false:=zD c2;clear c2;obtain rfl:=zY H;go_wp2;go_ret;exact ⟨_,by rfl,HO_3.out,HB.out⟩
/-! ### repriseref7_inter: function 71 -/
def repriseref7_inter.f (a0 : Int) : Option (Bool):=if a0 ≥ 32 then (some (decide (a0 ≤ 47))) else (some false)
set_option maxHeartbeats 8000000 in
set_option maxRecDepth 100000 in
theorem repriseref7_inter.calls (a0 : Int) (r : Bool) (w : World) (h : repriseref7_inter.f a0 = some r) :
 Calls Try.prog 71 #[.int .u8 a0] w fun e w'=>e = .returned (.bool r)∧Drawn0 w w':=by
 have H : (if a0 ≥ 32 then (some (decide (a0 ≤ 47))) else (some false)) = some r:=h;clear h;by_cases c2 : a0 ≥ 32
 ·rw [if_pos c2] at H;have c2b0 : decide (32 ≤ a0) = true:=zC c2;clear c2;obtain rfl:=zY H;go_enter Try.func71,Try.ntmps71
  go_wp2;go_ret;exact ⟨by rfl,by exact Drawn0.refl _⟩
 ·rw [if_neg c2] at H;have c2b0 : decide (32 ≤ a0) = false:=zD c2;clear c2;obtain rfl:=zY H;go_enter Try.func71,Try.ntmps71
  go_wp2;go_ret;exact ⟨by rfl,by exact Drawn0.refl _⟩
/-! ### repriseref7_with: function 72 -/
def repriseref7_with.f (l0 : List Int) (a1 : Int) : Option (List Int):=if ([] : List Int).length + l0.length < 140737488355328 then ((some (([] : List Int) ++ l0 : List Int)).bind fun y168=>(if y168.length < 140737488355328 then (some (y168 ++ [a1])) else (none))) else (none)
set_option maxHeartbeats 8000000 in
set_option maxRecDepth 100000 in
theorem repriseref7_with.calls (A0 : Option Addr) (c0 : Nat) (l0 : List Int) (a1 : Int) (r : List Int) (w : World) (hr0 : Kd.C (Kd.int .u8) w A0 l0.length l0) (hc0 : l0.length ≤ c0) (h : repriseref7_with.f l0 a1 = some r) :
 Calls Try.prog 72 #[.slice A0 l0.length c0,.int .u8 a1] w fun e w'=>∃ v0_ : Value,e = .returned (v0_)∧Kd.R (Kd.int .u8) 5 w' w.heap.size (fun _=>True) v0_ r∧Below w.heap.size w w':=by
 have HR0:=zA hr0;have HC0:=zA hc0;clear hr0 hc0;have HB:=zA (zE w.heap.size w);have H : (if ([] : List Int).length + l0.length < 140737488355328 then ((some (([] : List Int) ++ l0 : List Int)).bind fun y168=>(if y168.length < 140737488355328 then (some (y168 ++ [a1])) else (none))) else (none)) = some r:=h;clear h;by_cases c3 : ([] : List Int).length + l0.length < 140737488355328
 ·rw [if_pos c3] at H;have LMc3:=zA c3;clear c3;obtain ⟨y168,hy168⟩ : ∃ y_ : List Int,y_ = (([] : List Int) ++ l0):=⟨_,rfl⟩;replace H : (if y168.length < 140737488355328 then (some (y168 ++ [a1])) else (none)) = some r:=by (have H2_:=(zX _ _).symm.trans H;rw [hy168];with_reducible exact H2_)
  have Ny168:=zA hy168;clear hy168;by_cases c4 : y168.length < 140737488355328
  ·rw [if_pos c4] at H;have LMc4:=zA c4;clear c4;obtain ⟨y171,hy171⟩ : ∃ y_ : List Int,y_ = (y168 ++ [a1]):=⟨_,rfl⟩;replace H : (some y171) = some r:=by (rw [hy171];with_reducible exact H)
   have Ny171:=zA hy171;clear hy171;obtain rfl:=zY H;go_enter Try.func72,Try.ntmps72
   go_wp2_with (first|((with_reducible refine gate_builtin (b:=.append) (xs:=#[.const (.slice none 0 0),.tmp 5]) rfl ?_);at_builtin;refine Kd.R_append_rows (Kd.int .u8) (w0:=w) w.heap.size rfl (.const (.slice none 0 0)) (.tmp 5) 22 5 (.int .u8 0) 1 rfl Try.underlying22 info5 rfl (by decide) (by omega) (.slice none 0 0) ([] : List Int) l0 _ _ _ (fun _=>True) (fun _=>False) rfl rfl ?aO ?aR (fun _ _ h=>h) (fun _ h=>h.elim) ?aF ?aB ?aS ?aL ?_;(case aR=>exact HR0.out);(case aB=>exact HB.out);(case aF=>exact (fun _ _=>trivial));(case aO=>exact ((Kd.R_nil _ _ _ _ (fun _=>True))));(case aS=>exact (below_size HB.out));(case aL=>have:=LMc3.out;omega);intro v169 w5 ho hb hg hat;rw [← Ny168.out] at ho;have n0_:=zA (hb);have n1_:=zA (ho);clear HB;have HB:=n0_;have HO170:=n1_;clear n0_ n1_;clear ho hb hg hat)|((with_reducible refine gate_builtin (b:=.append) (xs:=#[.tmp 6,.tmp 8]) rfl ?_);at_builtin;refine Kd.R_append (Kd.int .u8) (w0:=w) w.heap.size rfl (.tmp 6) (.tmp 8) 22 5 (.int .u8 0) 1 rfl Try.underlying22 info5 rfl (by decide) (by omega) v169 y168 a1 [.int .u8 a1] (fun _=>True) (fun _=>False) rfl rfl ?aP (fun _ hk=>hk.elim) ?aF ?aO ?aB ?aS ?aL ?_;(case aP=>exact rfl);(case aB=>exact HB.out);(case aF=>exact (fun _ _=>trivial));(case aO=>exact HO170.out);(case aS=>exact (below_size HB.out));(case aL=>have:=LMc4.out;omega);intro v172 w6 ho hb hg hat;rw [← Ny171.out] at ho;have n0_:=zA (hb);have n1_:=zA (ho);clear HB;clear HO170;have HB:=n0_;have HO173:=n1_;clear n0_ n1_;clear ho hb hg hat));go_ret;exact ⟨_,by rfl,HO173.out,HB.out⟩
  ·rw [if_neg c4] at H;exact absurd H (by simp)
 ·rw [if_neg c3] at H;exact absurd H (by simp)
/-! ### repriseref7_own: function 51 -/
def repriseref7_own.f (l0 : List (S35)) : Option ((List (S35))):=if ([] : List (S35)).length + l0.length < 17592186044416 then (some (([] : List (S35)) ++ l0)) else (none)
set_option maxHeartbeats 8000000 in
set_option maxRecDepth 100000 in
theorem repriseref7_own.calls (A0 : Option Addr) (c0 : Nat) (l0 : List (S35)) (r : List (S35)) (w : World) (hr0 : Kd.C k35 w A0 l0.length l0) (hc0 : l0.length ≤ c0) (h : repriseref7_own.f l0 = some r) :
 Calls Try.prog 51 #[.slice A0 l0.length c0] w fun e w'=>∃ v0_ : Value,e = .returned (v0_)∧Kd.R k35 35 w' w.heap.size (fun _=>True) v0_ r∧Below w.heap.size w w':=by
 have HR0:=zA hr0;have HC0:=zA hc0;clear hr0 hc0;have HB:=zA (zE w.heap.size w);have H : (if ([] : List (S35)).length + l0.length < 17592186044416 then (some (([] : List (S35)) ++ l0)) else (none)) = some r:=h;clear h;by_cases c2 : ([] : List (S35)).length + l0.length < 17592186044416
 ·rw [if_pos c2] at H;have LMc2:=zA c2;clear c2;obtain ⟨y292,hy292⟩ : ∃ y_ : List (S35),y_ = (([] : List (S35)) ++ l0):=⟨_,rfl⟩;replace H : (some y292) = some r:=by (rw [hy292];with_reducible exact H)
  have Ny292:=zA hy292;clear hy292;obtain rfl:=zY H;go_enter Try.func51,Try.ntmps51
  go_wp2_with (((with_reducible refine gate_builtin (b:=.append) (xs:=#[.const (.slice none 0 0),.tmp 3]) rfl ?_);at_builtin;refine Kd.R_append_rows k35 (w0:=w) w.heap.size rfl (.const (.slice none 0 0)) (.tmp 3) 24 35 (.agg #[(.int .i32 0),(.int .u16 0),(.int .u8 0)]) 8 rfl Try.underlying24 info35 rfl (by decide) (by omega) (.slice none 0 0) ([] : List (S35)) l0 _ _ _ (fun _=>True) (fun _=>False) rfl rfl ?aO ?aR (fun _ _ h=>h) (fun _ h=>h.elim) ?aF ?aB ?aS ?aL ?_;(case aR=>exact HR0.out);(case aB=>exact HB.out);(case aF=>exact (fun _ _=>trivial));(case aO=>exact ((Kd.R_nil _ _ _ _ (fun _=>True))));(case aS=>exact (below_size HB.out));(case aL=>have:=LMc2.out;omega);intro v293 w3 ho hb hg hat;rw [← Ny292.out] at ho;have n0_:=zA (hb);have n1_:=zA (ho);clear HB;have HB:=n0_;have HO294:=n1_;clear n0_ n1_;clear ho hb hg hat));go_ret;exact ⟨_,by rfl,HO294.out,HB.out⟩
 ·rw [if_neg c2] at H;exact absurd H (by simp)
/-! ### repriseref7_grid: function 52 -/
def repriseref7_grid.f (l0 : List (S35)) (a1 : Int) : Option (Int × Bool):=if a1 < 1 then (some (0,false)) else (if a1 > 1000 then (some (0,false)) else (if a1 = 0 then (none) else (if ((l0.length : Int) % a1) = 0 then (if (wrap64 ((l0.length : Int) / a1)) < 1 then (some (0,false)) else (if (wrap64 ((l0.length : Int) / a1)) > 1000 then (some (0,false)) else (some (wrap64 ((l0.length : Int) / a1),true)))) else (some (0,false)))))
set_option maxHeartbeats 8000000 in
set_option maxRecDepth 100000 in
theorem repriseref7_grid.calls (A0 : Option Addr) (c0 : Nat) (l0 : List (S35)) (a1 : Int) (r1 : Int) (r2 : Bool) (w : World) (hr0 : Kd.C k35 w A0 l0.length l0) (hc0 : l0.length ≤ c0) (h : repriseref7_grid.f l0 a1 = some (r1,r2)) :
 Calls Try.prog 52 #[.slice A0 l0.length c0,.int .i64 a1] w fun e w'=>e = .returned (.tuple #[.int .i64 r1,.bool r2])∧Drawn0 w w':=by
 have HR0:=zA hr0;have HC0:=zA hc0;clear hr0 hc0;have H : (if a1 < 1 then (some (0,false)) else (if a1 > 1000 then (some (0,false)) else (if a1 = 0 then (none) else (if ((l0.length : Int) % a1) = 0 then (if (wrap64 ((l0.length : Int) / a1)) < 1 then (some (0,false)) else (if (wrap64 ((l0.length : Int) / a1)) > 1000 then (some (0,false)) else (some (wrap64 ((l0.length : Int) / a1),true)))) else (some (0,false)))))) = some (r1,r2):=h;clear h;by_cases c3 : a1 < 1
 ·rw [if_pos c3] at H;have c3b0 : decide (a1 < 1) = true:=zC c3;clear c3;simp only [Option.some.injEq,Prod.mk.injEq] at H;obtain ⟨rfl,rfl⟩:=H;go_enter Try.func52,Try.ntmps52
  go_wp2;go_ret2;exact ⟨by rfl,by exact Drawn0.refl _⟩
 ·rw [if_neg c3] at H;have c3b0 : decide (a1 < 1) = false:=zD c3;clear c3;by_cases c4 : a1 > 1000
  ·rw [if_pos c4] at H;have c4b0 : decide (1000 < a1) = true:=zC c4;clear c4;simp only [Option.some.injEq,Prod.mk.injEq] at H;obtain ⟨rfl,rfl⟩:=H;go_enter Try.func52,Try.ntmps52
   go_wp2;go_ret2;exact ⟨by rfl,by exact Drawn0.refl _⟩
  ·rw [if_neg c4] at H;have c4b0 : decide (1000 < a1) = false:=zD c4;clear c4;by_cases c5 : a1 = 0
   ·rw [if_pos c5] at H;exact absurd H (by simp)
   ·rw [if_neg c5] at H;have c5b0 : (a1 == 0) = false:=beq_eq_false_iff_ne.mpr c5;have c5b1 : (a1 != 0) = true:=bne_iff_ne.mpr c5;by_cases c6 : ((l0.length : Int) % a1) = 0
    ·rw [if_pos c6] at H;have c6b0 : (((l0.length : Int) % a1) == 0) = true:=beq_iff_eq.mpr c6;have c6b1 : (((l0.length : Int) % a1) != 0) = false:=bne_eq_false_iff_eq.mpr c6;clear c6;by_cases c7 : (wrap64 ((l0.length : Int) / a1)) < 1
     ·rw [if_pos c7] at H;have c7b0 : decide ((wrap64 ((l0.length : Int) / a1)) < 1) = true:=zC c7;clear c7;simp only [Option.some.injEq,Prod.mk.injEq] at H;obtain ⟨rfl,rfl⟩:=H;go_enter Try.func52,Try.ntmps52
      go_wp2;go_ret2;exact ⟨by rfl,by exact Drawn0.refl _⟩
     ·rw [if_neg c7] at H;have c7b0 : decide ((wrap64 ((l0.length : Int) / a1)) < 1) = false:=zD c7;clear c7;by_cases c8 : (wrap64 ((l0.length : Int) / a1)) > 1000
      ·rw [if_pos c8] at H;have c8b0 : decide (1000 < (wrap64 ((l0.length : Int) / a1))) = true:=zC c8;clear c8;simp only [Option.some.injEq,Prod.mk.injEq] at H;obtain ⟨rfl,rfl⟩:=H;go_enter Try.func52,Try.ntmps52
       go_wp2;go_ret2;exact ⟨by rfl,by exact Drawn0.refl _⟩
      ·rw [if_neg c8] at H;have c8b0 : decide (1000 < (wrap64 ((l0.length : Int) / a1))) = false:=zD c8;clear c8;simp only [Option.some.injEq,Prod.mk.injEq] at H;obtain ⟨rfl,rfl⟩:=H;go_enter Try.func52,Try.ntmps52
       go_wp2;go_ret2;exact ⟨by rfl,by exact Drawn0.refl _⟩
    ·rw [if_neg c6] at H;have c6b0 : (((l0.length : Int) % a1) == 0) = false:=beq_eq_false_iff_ne.mpr c6;have c6b1 : (((l0.length : Int) % a1) != 0) = true:=bne_iff_ne.mpr c6;simp only [Option.some.injEq,Prod.mk.injEq] at H;obtain ⟨rfl,rfl⟩:=H;go_enter Try.func52,Try.ntmps52
     go_wp2;go_ret2;exact ⟨by rfl,by exact Drawn0.refl _⟩
/-! ### repriseref7_place: function 54 -/
def repriseref7_place.f (l0 : List (S35)) (a1 : Int) (a2 : Int) (a3 : Int) : Option (Bool):=(repriseref7_grid.f l0 a1).bind fun bt295=>(if bt295.2 = true then (if a2 ≥ 0 then (if a2 < bt295.1 then (if a3 ≥ 0 then (some (decide (a3 ≤ a1))) else (some false)) else (some false)) else (some false)) else (some false))
set_option maxHeartbeats 8000000 in
set_option maxRecDepth 100000 in
theorem repriseref7_place.calls (A0 : Option Addr) (c0 : Nat) (l0 : List (S35)) (a1 : Int) (a2 : Int) (a3 : Int) (r : Bool) (w : World) (hr0 : Kd.C k35 w A0 l0.length l0) (hc0 : l0.length ≤ c0) (h : repriseref7_place.f l0 a1 a2 a3 = some r) :
 Calls Try.prog 54 #[.slice A0 l0.length c0,.int .i64 a1,.int .i64 a2,.int .i64 a3] w fun e w'=>e = .returned (.bool r)∧Drawn0 w w':=by
 have HR0:=zA hr0;have HC0:=zA hc0;clear hr0 hc0;have H : ((repriseref7_grid.f l0 a1).bind fun bt295=>(if bt295.2 = true then (if a2 ≥ 0 then (if a2 < bt295.1 then (if a3 ≥ 0 then (some (decide (a3 ≤ a1))) else (some false)) else (some false)) else (some false)) else (some false))) = some r:=h;clear h;replace H:=Option.bind_eq_some_iff.mp H;obtain ⟨⟨t295,t296⟩,A50,H⟩:=H;replace H : (if t296 = true then (if a2 ≥ 0 then (if a2 < t295 then (if a3 ≥ 0 then (some (decide (a3 ≤ a1))) else (some false)) else (some false)) else (some false)) else (some false)) = some r:=H;have A5:=zA A50;clear A50;by_cases c6 : t296 = true
 ·subst c6;have H1 : (if a2 ≥ 0 then (if a2 < t295 then (if a3 ≥ 0 then (some (decide (a3 ≤ a1))) else (some false)) else (some false)) else (some false)) = some r:=by rw [if_pos rfl] at H;exact H
  clear H;have H:=H1;clear H1;by_cases c7 : a2 ≥ 0
  ·rw [if_pos c7] at H;have c7b0 : decide (0 ≤ a2) = true:=zC c7;clear c7;by_cases c8 : a2 < t295
   ·rw [if_pos c8] at H;have c8b0 : decide (a2 < t295) = true:=zC c8;clear c8;by_cases c9 : a3 ≥ 0
    ·rw [if_pos c9] at H;have c9b0 : decide (0 ≤ a3) = true:=zC c9;clear c9;obtain rfl:=zY H;go_enter Try.func54,Try.ntmps54
     go_wp2_with (((with_reducible refine zI (f:=52) rfl ?_);refine goesL_ (some 14) rfl rfl Try.func52 (by kernel_rfl) rfl #[.slice A0 l0.length c0,.int .i64 a1] rfl (by (try simp only [zS,zT,zU]);rfl) ?_;(with_reducible refine (repriseref7_grid.calls _ _ l0 a1 t295 true _ ?side1 ?side2 A5.out).mono ?_);(case side1=>exact HR0.out);(case side2=>exact HC0.out);rintro e w' ⟨rfl,⟨nd,rfl⟩⟩;refine ⟨_,rfl,?_⟩));go_ret;exact ⟨by rfl,by repeat (first|exact Drawn0.refl _|apply Drawn0.step)⟩
    ·rw [if_neg c9] at H;have c9b0 : decide (0 ≤ a3) = false:=zD c9;clear c9;obtain rfl:=zY H;go_enter Try.func54,Try.ntmps54
     go_wp2_with (((with_reducible refine zI (f:=52) rfl ?_);refine goesL_ (some 14) rfl rfl Try.func52 (by kernel_rfl) rfl #[.slice A0 l0.length c0,.int .i64 a1] rfl (by (try simp only [zS,zT,zU]);rfl) ?_;(with_reducible refine (repriseref7_grid.calls _ _ l0 a1 t295 true _ ?side1 ?side2 A5.out).mono ?_);(case side1=>exact HR0.out);(case side2=>exact HC0.out);rintro e w' ⟨rfl,⟨nd,rfl⟩⟩;refine ⟨_,rfl,?_⟩));go_ret;exact ⟨by rfl,by repeat (first|exact Drawn0.refl _|apply Drawn0.step)⟩
   ·rw [if_neg c8] at H;have c8b0 : decide (a2 < t295) = false:=zD c8;clear c8;obtain rfl:=zY H;go_enter Try.func54,Try.ntmps54
    go_wp2_with (((with_reducible refine zI (f:=52) rfl ?_);refine goesL_ (some 14) rfl rfl Try.func52 (by kernel_rfl) rfl #[.slice A0 l0.length c0,.int .i64 a1] rfl (by (try simp only [zS,zT,zU]);rfl) ?_;(with_reducible refine (repriseref7_grid.calls _ _ l0 a1 t295 true _ ?side1 ?side2 A5.out).mono ?_);(case side1=>exact HR0.out);(case side2=>exact HC0.out);rintro e w' ⟨rfl,⟨nd,rfl⟩⟩;refine ⟨_,rfl,?_⟩));go_ret;exact ⟨by rfl,by repeat (first|exact Drawn0.refl _|apply Drawn0.step)⟩
  ·rw [if_neg c7] at H;have c7b0 : decide (0 ≤ a2) = false:=zD c7;clear c7;obtain rfl:=zY H;go_enter Try.func54,Try.ntmps54
   go_wp2_with (((with_reducible refine zI (f:=52) rfl ?_);refine goesL_ (some 14) rfl rfl Try.func52 (by kernel_rfl) rfl #[.slice A0 l0.length c0,.int .i64 a1] rfl (by (try simp only [zS,zT,zU]);rfl) ?_;(with_reducible refine (repriseref7_grid.calls _ _ l0 a1 t295 true _ ?side1 ?side2 A5.out).mono ?_);(case side1=>exact HR0.out);(case side2=>exact HC0.out);rintro e w' ⟨rfl,⟨nd,rfl⟩⟩;refine ⟨_,rfl,?_⟩));go_ret;exact ⟨by rfl,by repeat (first|exact Drawn0.refl _|apply Drawn0.step)⟩
 ·replace c6:=Bool.eq_false_iff.mpr c6;subst c6;have H1 : (some false) = some r:=by rw [if_neg (show ¬ (false = true) by decide)] at H;exact H
  clear H;have H:=H1;clear H1;obtain rfl:=zY H;go_enter Try.func54,Try.ntmps54
  go_wp2_with (((with_reducible refine zI (f:=52) rfl ?_);refine goesL_ (some 14) rfl rfl Try.func52 (by kernel_rfl) rfl #[.slice A0 l0.length c0,.int .i64 a1] rfl (by (try simp only [zS,zT,zU]);rfl) ?_;(with_reducible refine (repriseref7_grid.calls _ _ l0 a1 t295 false _ ?side1 ?side2 A5.out).mono ?_);(case side1=>exact HR0.out);(case side2=>exact HC0.out);rintro e w' ⟨rfl,⟨nd,rfl⟩⟩;refine ⟨_,rfl,?_⟩));go_ret;exact ⟨by rfl,by repeat (first|exact Drawn0.refl _|apply Drawn0.step)⟩
end Go.Proofs.Ytooageeehallbaa.QRunsCut
namespace Go.Proofs.Ytooageeehallbaa.QRunsCut
open Go.RowKit Go.Proofs.YtooageeehallbaaW.PrintWords Go.Proofs.YtooageeehallbaaW.PrintLast Go.Proofs.YtooageeehallbaaW.PrintMore
attribute [local go_sem] max2_int min2_int max_two min_two max_three min_three max_four min_four 
set_option linter.unusedVariables false
set_option linter.unusedSimpArgs false
/-! ### repriseref1_in: function 80 -/
def repriseref1_in.f (a0 : Int) (a1 : Int) (a2 : Int) : Option (Bool):=if a0 ≥ a1 then (some (decide (a0 ≤ a2))) else (some false)
set_option maxHeartbeats 8000000 in
set_option maxRecDepth 100000 in
theorem repriseref1_in.calls (a0 : Int) (a1 : Int) (a2 : Int) (r : Bool) (w : World) (h : repriseref1_in.f a0 a1 a2 = some r) :
 Calls Try.prog 80 #[.int .i32 a0,.int .i32 a1,.int .i32 a2] w fun e w'=>e = .returned (.bool r)∧Drawn0 w w':=by
 have H : (if a0 ≥ a1 then (some (decide (a0 ≤ a2))) else (some false)) = some r:=h;clear h;by_cases c4 : a0 ≥ a1
 ·rw [if_pos c4] at H;have c4b0 : decide (a1 ≤ a0) = true:=zC c4;clear c4;obtain rfl:=zY H;go_enter Try.func80,Try.ntmps80
  go_wp2;go_ret;exact ⟨by first|rfl|(simp;done)|(simp [*];done),by repeat (first|exact Drawn0.refl _|apply Drawn0.step)⟩
 ·rw [if_neg c4] at H;have c4b0 : decide (a1 ≤ a0) = false:=zD c4;clear c4;obtain rfl:=zY H;go_enter Try.func80,Try.ntmps80
  go_wp2;go_ret;exact ⟨by first|rfl|(simp;done)|(simp [*];done),by repeat (first|exact Drawn0.refl _|apply Drawn0.step)⟩
end Go.Proofs.Ytooageeehallbaa.QRunsCut
namespace Go.Proofs.Ytooageeehallbaa.QRunsCut
open Go.RowKit Go.Proofs.YtooageeehallbaaW.PrintWords Go.Proofs.YtooageeehallbaaW.PrintLast Go.Proofs.YtooageeehallbaaW.PrintMore
attribute [local go_sem] max2_int min2_int max_two min_two max_three min_three max_four min_four 
set_option linter.unusedVariables false
set_option linter.unusedSimpArgs false
/-! ### repriseref1_Width: function 74 -/
mutual
def repriseref1_Width.j0 : Nat → Int → Bool → Option (Int)
|0,_,_=>none
|k + 1,x0,x27=>if x27 = true then (some 0) else (repriseref1_Width.l0 k x0 (([4352,4447,11904,12350,12353,13311,13312,19903,19968,40959,40960,42191,44032,55203,63744,64255,65072,65135,65280,65376,65504,65510,127744,128591,129280,129535,131072,196605,196608,262141] : List Int)) 0)
def repriseref1_Width.l0 : Nat → Int → List Int → Int → Option (Int)
|0,_,_,_=>none
|k + 1,x0,x3,x4=>if x4 < (x3.length : Int) then (if 0 ≤ x4 then (if 0 ≤ (wrap64 (x4 + 1)) then (if (wrap64 (x4 + 1)) < (x3.length : Int) then ((repriseref1_in.f x0 (rd x3 x4) (rd x3 (wrap64 (x4 + 1)))).bind fun t341=>(if t341 = true then (some 2) else (repriseref1_Width.l0 k x0 x3 (wrap64 (x4 + 2))))) else (none)) else (none)) else (none)) else (some 1)
end
def repriseref1_Width.f (k : Nat) (a0 : Int) : Option (Int):=(repriseref1_May.f a0).bind fun t331=>(if t331 = true then (if a0 < 32 then (repriseref1_Width.j0 k a0 true) else ((repriseref1_in.f a0 127 159).bind fun t332=>(if t332 = true then (repriseref1_Width.j0 k a0 true) else ((repriseref1_in.f a0 768 879).bind fun t333=>(if t333 = true then (repriseref1_Width.j0 k a0 true) else ((repriseref1_in.f a0 8203 8207).bind fun t334=>(if t334 = true then (repriseref1_Width.j0 k a0 true) else ((repriseref1_in.f a0 65024 65039).bind fun t335=>(repriseref1_Width.j0 k a0 t335))))))))) else (repriseref1_Width.j0 k a0 true))
theorem repriseref1_Width.mono_l : ∀ k,(∀ y0 y1,LeO (repriseref1_Width.j0 k y0 y1) (repriseref1_Width.j0 (k + 1) y0 y1))∧(∀ y0 y1 y2,LeO (repriseref1_Width.l0 k y0 y1 y2) (repriseref1_Width.l0 (k + 1) y0 y1 y2))
|0=>⟨fun _ _ r h=>by simp [repriseref1_Width.j0] at h,fun _ _ _ r h=>by simp [repriseref1_Width.l0] at h⟩
|k + 1=>by
  obtain ⟨ih0,ih1⟩:=repriseref1_Width.mono_l k;refine ⟨?_,?_⟩
  ·intro y0 y1;unfold repriseref1_Width.j0;repeat' first
  |(with_reducible exact ih0 _ _)
  |(with_reducible exact ih1 _ _ _)
  |(with_reducible exact LeO.refl _)
  |(with_reducible exact LeO.none _)
  |(with_reducible refine LeO.ite ?_ ?_)
  |(with_reducible refine LeO.bind ?_ (fun _=>?_))
  |exact ih0 _ _
  |exact ih1 _ _ _
  |exact LeO.none _
  |refine LeO.ite ?_ ?_
  |refine LeO.bind ?_ (fun _=>?_)
  ·intro y0 y1 y2;unfold repriseref1_Width.l0;repeat' first
  |(with_reducible exact ih0 _ _)
  |(with_reducible exact ih1 _ _ _)
  |(with_reducible exact LeO.refl _)
  |(with_reducible exact LeO.none _)
  |(with_reducible refine LeO.ite ?_ ?_)
  |(with_reducible refine LeO.bind ?_ (fun _=>?_))
  |exact ih0 _ _
  |exact ih1 _ _ _
  |exact LeO.none _
  |refine LeO.ite ?_ ?_
  |refine LeO.bind ?_ (fun _=>?_)
theorem repriseref1_Width.mono : ∀ a0 k,LeO (repriseref1_Width.f k a0) (repriseref1_Width.f (k + 1) a0):=by
 intro a0 k;obtain ⟨ih0,ih1⟩:=repriseref1_Width.mono_l k;unfold repriseref1_Width.f;repeat' first
 |(with_reducible exact ih0 _ _)
 |(with_reducible exact ih1 _ _ _)
 |(with_reducible exact LeO.refl _)
 |(with_reducible exact LeO.none _)
 |(with_reducible refine LeO.ite ?_ ?_)
 |(with_reducible refine LeO.bind ?_ (fun _=>?_))
 |exact ih0 _ _
 |exact ih1 _ _ _
 |exact LeO.none _
 |refine LeO.ite ?_ ?_
 |refine LeO.bind ?_ (fun _=>?_)
set_option maxHeartbeats 8000000 in
set_option maxRecDepth 100000 in
theorem repriseref1_Width.calls (k : Nat) (a0 : Int) (r : Int) (w : World) (h : repriseref1_Width.f k a0 = some r) :
 Calls Try.prog 74 #[.int .i32 a0] w fun e w'=>e = .returned (.int .i64 r)∧Below w.heap.size w w':=by
 have HB:=zA (zE w.heap.size w);have H : ((repriseref1_May.f a0).bind fun t331=>(if t331 = true then (if a0 < 32 then (repriseref1_Width.j0 k a0 true) else ((repriseref1_in.f a0 127 159).bind fun t332=>(if t332 = true then (repriseref1_Width.j0 k a0 true) else ((repriseref1_in.f a0 768 879).bind fun t333=>(if t333 = true then (repriseref1_Width.j0 k a0 true) else ((repriseref1_in.f a0 8203 8207).bind fun t334=>(if t334 = true then (repriseref1_Width.j0 k a0 true) else ((repriseref1_in.f a0 65024 65039).bind fun t335=>(repriseref1_Width.j0 k a0 t335))))))))) else (repriseref1_Width.j0 k a0 true))) = some r:=h;clear h;have HC2:=zA H;clear H;go_enter Try.func74,Try.ntmps74
 go_upto_region 1 with (fail)
 repeat (go_quiet (fail);go_upto_region 1 with (fail))
 go_cut [27] (fun v27 wc=>∃ (kq : Nat) (x27_1 : Bool),v27 = .bool x27_1∧Aside0 (repriseref1_Width.j0 kq a0 x27_1 = some r)∧Aside0 (kq ≤ k)∧Aside0 (Below w.heap.size w wc))
 case first =>
  have H:=HC2.out;clear HC2;replace H:=Option.bind_eq_some_iff.mp H;obtain ⟨t331,A30,H⟩:=H;replace H : (if t331 = true then (if a0 < 32 then (repriseref1_Width.j0 k a0 true) else ((repriseref1_in.f a0 127 159).bind fun t332=>(if t332 = true then (repriseref1_Width.j0 k a0 true) else ((repriseref1_in.f a0 768 879).bind fun t333=>(if t333 = true then (repriseref1_Width.j0 k a0 true) else ((repriseref1_in.f a0 8203 8207).bind fun t334=>(if t334 = true then (repriseref1_Width.j0 k a0 true) else ((repriseref1_in.f a0 65024 65039).bind fun t335=>(repriseref1_Width.j0 k a0 t335))))))))) else (repriseref1_Width.j0 k a0 true)) = some r:=H;have A3:=zA A30;clear A30;by_cases c4 : t331 = true
  ·subst c4;have H1 : (if a0 < 32 then (repriseref1_Width.j0 k a0 true) else ((repriseref1_in.f a0 127 159).bind fun t332=>(if t332 = true then (repriseref1_Width.j0 k a0 true) else ((repriseref1_in.f a0 768 879).bind fun t333=>(if t333 = true then (repriseref1_Width.j0 k a0 true) else ((repriseref1_in.f a0 8203 8207).bind fun t334=>(if t334 = true then (repriseref1_Width.j0 k a0 true) else ((repriseref1_in.f a0 65024 65039).bind fun t335=>(repriseref1_Width.j0 k a0 t335))))))))) = some r:=by rw [if_pos rfl] at H;exact H
   clear H;have H:=H1;clear H1;by_cases c5 : a0 < 32
   ·rw [if_pos c5] at H;have c5b0 : decide (a0 < 32) = true:=zC c5;clear c5;(first|rw [c5b0]|(simp only [i64_w,i32_w];rw [c5b0])|skip)
    have H':=zA H;clear H;go_wp2_with (first|(go_at_call 48;(with_reducible refine (repriseref1_May.calls a0 true _ A3.out).mono ?_);rintro e w' ⟨rfl,⟨nd,rfl⟩⟩));repeat (go_quiet (first|(go_at_call 48;(with_reducible refine (repriseref1_May.calls a0 true _ A3.out).mono ?_);rintro e w' ⟨rfl,⟨nd,rfl⟩⟩;(try first|exact ⟨rfl,_,World.drewN_drewN _ _ _⟩|exact ⟨rfl,_,Eq.trans (World.drewN_drewN _ _ _) (congrArg (World.drewN _) (Nat.add_assoc _ _ _))⟩)));try go_wp2_with (fail))
    go_meet
    case rel=>exact ⟨_,(true),(by first|rfl|(simp;done)|(simp [*];done)),H',⟨by first|omega|exact Nat.le_refl _⟩,⟨by repeat (first|(with_reducible first|exact HB.out|apply below_alloc|apply pw_below_drewN|apply below_drew1)|exact HB.out)⟩⟩
   ·rw [if_neg c5] at H;have c5b0 : decide (a0 < 32) = false:=zD c5;clear c5;(first|rw [c5b0]|(simp only [i64_w,i32_w];rw [c5b0])|skip)
    replace H:=Option.bind_eq_some_iff.mp H;obtain ⟨t332,A60,H⟩:=H;replace H : (if t332 = true then (repriseref1_Width.j0 k a0 true) else ((repriseref1_in.f a0 768 879).bind fun t333=>(if t333 = true then (repriseref1_Width.j0 k a0 true) else ((repriseref1_in.f a0 8203 8207).bind fun t334=>(if t334 = true then (repriseref1_Width.j0 k a0 true) else ((repriseref1_in.f a0 65024 65039).bind fun t335=>(repriseref1_Width.j0 k a0 t335))))))) = some r:=H;have A6:=zA A60;clear A60;by_cases c7 : t332 = true
    ·subst c7;have H1 : (repriseref1_Width.j0 k a0 true) = some r:=by rw [if_pos rfl] at H;exact H
     clear H;have H:=H1;clear H1;have H':=zA H;clear H;go_wp2_with (first|(go_at_call 48;(with_reducible refine (repriseref1_May.calls a0 true _ A3.out).mono ?_);rintro e w' ⟨rfl,⟨nd,rfl⟩⟩)|(go_at_call 80;(with_reducible refine (repriseref1_in.calls a0 127 159 true _ A6.out).mono ?_);rintro e w' ⟨rfl,⟨nd,rfl⟩⟩));repeat (go_quiet (first|(go_at_call 48;(with_reducible refine (repriseref1_May.calls a0 true _ A3.out).mono ?_);rintro e w' ⟨rfl,⟨nd,rfl⟩⟩;(try first|exact ⟨rfl,_,World.drewN_drewN _ _ _⟩|exact ⟨rfl,_,Eq.trans (World.drewN_drewN _ _ _) (congrArg (World.drewN _) (Nat.add_assoc _ _ _))⟩))|(go_at_call 80;(with_reducible refine (repriseref1_in.calls a0 127 159 true _ A6.out).mono ?_);rintro e w' ⟨rfl,⟨nd,rfl⟩⟩;(try first|exact ⟨rfl,_,World.drewN_drewN _ _ _⟩|exact ⟨rfl,_,Eq.trans (World.drewN_drewN _ _ _) (congrArg (World.drewN _) (Nat.add_assoc _ _ _))⟩)));try go_wp2_with (fail))
     go_meet
     case rel=>exact ⟨_,(true),(by first|rfl|(simp;done)|(simp [*];done)),H',⟨by first|omega|exact Nat.le_refl _⟩,⟨by repeat (first|(with_reducible first|exact HB.out|apply below_alloc|apply pw_below_drewN|apply below_drew1)|exact HB.out)⟩⟩
    ·replace c7:=Bool.eq_false_iff.mpr c7;subst c7;have H1 : ((repriseref1_in.f a0 768 879).bind fun t333=>(if t333 = true then (repriseref1_Width.j0 k a0 true) else ((repriseref1_in.f a0 8203 8207).bind fun t334=>(if t334 = true then (repriseref1_Width.j0 k a0 true) else ((repriseref1_in.f a0 65024 65039).bind fun t335=>(repriseref1_Width.j0 k a0 t335)))))) = some r:=by rw [if_neg (show ¬ (false = true) by decide)] at H;exact H
     clear H;have H:=H1;clear H1;replace H:=Option.bind_eq_some_iff.mp H;obtain ⟨t333,A80,H⟩:=H;replace H : (if t333 = true then (repriseref1_Width.j0 k a0 true) else ((repriseref1_in.f a0 8203 8207).bind fun t334=>(if t334 = true then (repriseref1_Width.j0 k a0 true) else ((repriseref1_in.f a0 65024 65039).bind fun t335=>(repriseref1_Width.j0 k a0 t335))))) = some r:=H;have A8:=zA A80;clear A80;by_cases c9 : t333 = true
     ·subst c9;have H1 : (repriseref1_Width.j0 k a0 true) = some r:=by rw [if_pos rfl] at H;exact H
      clear H;have H:=H1;clear H1;have H':=zA H;clear H;go_wp2_with (first|(go_at_call 48;(with_reducible refine (repriseref1_May.calls a0 true _ A3.out).mono ?_);rintro e w' ⟨rfl,⟨nd,rfl⟩⟩)|(go_at_call 80;(with_reducible refine (repriseref1_in.calls a0 127 159 false _ A6.out).mono ?_);rintro e w' ⟨rfl,⟨nd,rfl⟩⟩)|(go_at_call 80;(with_reducible refine (repriseref1_in.calls a0 768 879 true _ A8.out).mono ?_);rintro e w' ⟨rfl,⟨nd,rfl⟩⟩));repeat (go_quiet (first|(go_at_call 48;(with_reducible refine (repriseref1_May.calls a0 true _ A3.out).mono ?_);rintro e w' ⟨rfl,⟨nd,rfl⟩⟩;(try first|exact ⟨rfl,_,World.drewN_drewN _ _ _⟩|exact ⟨rfl,_,Eq.trans (World.drewN_drewN _ _ _) (congrArg (World.drewN _) (Nat.add_assoc _ _ _))⟩))|(go_at_call 80;(with_reducible refine (repriseref1_in.calls a0 127 159 false _ A6.out).mono ?_);rintro e w' ⟨rfl,⟨nd,rfl⟩⟩;(try first|exact ⟨rfl,_,World.drewN_drewN _ _ _⟩|exact ⟨rfl,_,Eq.trans (World.drewN_drewN _ _ _) (congrArg (World.drewN _) (Nat.add_assoc _ _ _))⟩))|(go_at_call 80;(with_reducible refine (repriseref1_in.calls a0 768 879 true _ A8.out).mono ?_);rintro e w' ⟨rfl,⟨nd,rfl⟩⟩;(try first|exact ⟨rfl,_,World.drewN_drewN _ _ _⟩|exact ⟨rfl,_,Eq.trans (World.drewN_drewN _ _ _) (congrArg (World.drewN _) (Nat.add_assoc _ _ _))⟩)));try go_wp2_with (fail))
      go_meet
      case rel=>exact ⟨_,(true),(by first|rfl|(simp;done)|(simp [*];done)),H',⟨by first|omega|exact Nat.le_refl _⟩,⟨by repeat (first|(with_reducible first|exact HB.out|apply below_alloc|apply pw_below_drewN|apply below_drew1)|exact HB.out)⟩⟩
     ·replace c9:=Bool.eq_false_iff.mpr c9;subst c9;have H1 : ((repriseref1_in.f a0 8203 8207).bind fun t334=>(if t334 = true then (repriseref1_Width.j0 k a0 true) else ((repriseref1_in.f a0 65024 65039).bind fun t335=>(repriseref1_Width.j0 k a0 t335)))) = some r:=by rw [if_neg (show ¬ (false = true) by decide)] at H;exact H
      clear H;have H:=H1;clear H1;replace H:=Option.bind_eq_some_iff.mp H;obtain ⟨t334,A100,H⟩:=H;replace H : (if t334 = true then (repriseref1_Width.j0 k a0 true) else ((repriseref1_in.f a0 65024 65039).bind fun t335=>(repriseref1_Width.j0 k a0 t335))) = some r:=H;have A10:=zA A100;clear A100;by_cases c11 : t334 = true
      ·subst c11;have H1 : (repriseref1_Width.j0 k a0 true) = some r:=by rw [if_pos rfl] at H;exact H
       clear H;have H:=H1;clear H1;have H':=zA H;clear H;go_wp2_with (first|(go_at_call 48;(with_reducible refine (repriseref1_May.calls a0 true _ A3.out).mono ?_);rintro e w' ⟨rfl,⟨nd,rfl⟩⟩)|(go_at_call 80;(with_reducible refine (repriseref1_in.calls a0 127 159 false _ A6.out).mono ?_);rintro e w' ⟨rfl,⟨nd,rfl⟩⟩)|(go_at_call 80;(with_reducible refine (repriseref1_in.calls a0 768 879 false _ A8.out).mono ?_);rintro e w' ⟨rfl,⟨nd,rfl⟩⟩)|(go_at_call 80;(with_reducible refine (repriseref1_in.calls a0 8203 8207 true _ A10.out).mono ?_);rintro e w' ⟨rfl,⟨nd,rfl⟩⟩));repeat (go_quiet (first|(go_at_call 48;(with_reducible refine (repriseref1_May.calls a0 true _ A3.out).mono ?_);rintro e w' ⟨rfl,⟨nd,rfl⟩⟩;(try first|exact ⟨rfl,_,World.drewN_drewN _ _ _⟩|exact ⟨rfl,_,Eq.trans (World.drewN_drewN _ _ _) (congrArg (World.drewN _) (Nat.add_assoc _ _ _))⟩))|(go_at_call 80;(with_reducible refine (repriseref1_in.calls a0 127 159 false _ A6.out).mono ?_);rintro e w' ⟨rfl,⟨nd,rfl⟩⟩;(try first|exact ⟨rfl,_,World.drewN_drewN _ _ _⟩|exact ⟨rfl,_,Eq.trans (World.drewN_drewN _ _ _) (congrArg (World.drewN _) (Nat.add_assoc _ _ _))⟩))|(go_at_call 80;(with_reducible refine (repriseref1_in.calls a0 768 879 false _ A8.out).mono ?_);rintro e w' ⟨rfl,⟨nd,rfl⟩⟩;(try first|exact ⟨rfl,_,World.drewN_drewN _ _ _⟩|exact ⟨rfl,_,Eq.trans (World.drewN_drewN _ _ _) (congrArg (World.drewN _) (Nat.add_assoc _ _ _))⟩))|(go_at_call 80;(with_reducible refine (repriseref1_in.calls a0 8203 8207 true _ A10.out).mono ?_);rintro e w' ⟨rfl,⟨nd,rfl⟩⟩;(try first|exact ⟨rfl,_,World.drewN_drewN _ _ _⟩|exact ⟨rfl,_,Eq.trans (World.drewN_drewN _ _ _) (congrArg (World.drewN _) (Nat.add_assoc _ _ _))⟩)));try go_wp2_with (fail))
       go_meet
       case rel=>exact ⟨_,(true),(by first|rfl|(simp;done)|(simp [*];done)),H',⟨by first|omega|exact Nat.le_refl _⟩,⟨by repeat (first|(with_reducible first|exact HB.out|apply below_alloc|apply pw_below_drewN|apply below_drew1)|exact HB.out)⟩⟩
      ·replace c11:=Bool.eq_false_iff.mpr c11;subst c11;have H1 : ((repriseref1_in.f a0 65024 65039).bind fun t335=>(repriseref1_Width.j0 k a0 t335)) = some r:=by rw [if_neg (show ¬ (false = true) by decide)] at H;exact H
       clear H;have H:=H1;clear H1;replace H:=Option.bind_eq_some_iff.mp H;obtain ⟨t335,A120,H⟩:=H;replace H : (repriseref1_Width.j0 k a0 t335) = some r:=H;have A12:=zA A120;clear A120;have H':=zA H;clear H;go_wp2_with (first|(go_at_call 48;(with_reducible refine (repriseref1_May.calls a0 true _ A3.out).mono ?_);rintro e w' ⟨rfl,⟨nd,rfl⟩⟩)|(go_at_call 80;(with_reducible refine (repriseref1_in.calls a0 127 159 false _ A6.out).mono ?_);rintro e w' ⟨rfl,⟨nd,rfl⟩⟩)|(go_at_call 80;(with_reducible refine (repriseref1_in.calls a0 768 879 false _ A8.out).mono ?_);rintro e w' ⟨rfl,⟨nd,rfl⟩⟩)|(go_at_call 80;(with_reducible refine (repriseref1_in.calls a0 8203 8207 false _ A10.out).mono ?_);rintro e w' ⟨rfl,⟨nd,rfl⟩⟩)|(go_at_call 80;(with_reducible refine (repriseref1_in.calls a0 65024 65039 t335 _ A12.out).mono ?_);rintro e w' ⟨rfl,⟨nd,rfl⟩⟩));repeat (go_quiet (first|(go_at_call 48;(with_reducible refine (repriseref1_May.calls a0 true _ A3.out).mono ?_);rintro e w' ⟨rfl,⟨nd,rfl⟩⟩;(try first|exact ⟨rfl,_,World.drewN_drewN _ _ _⟩|exact ⟨rfl,_,Eq.trans (World.drewN_drewN _ _ _) (congrArg (World.drewN _) (Nat.add_assoc _ _ _))⟩))|(go_at_call 80;(with_reducible refine (repriseref1_in.calls a0 127 159 false _ A6.out).mono ?_);rintro e w' ⟨rfl,⟨nd,rfl⟩⟩;(try first|exact ⟨rfl,_,World.drewN_drewN _ _ _⟩|exact ⟨rfl,_,Eq.trans (World.drewN_drewN _ _ _) (congrArg (World.drewN _) (Nat.add_assoc _ _ _))⟩))|(go_at_call 80;(with_reducible refine (repriseref1_in.calls a0 768 879 false _ A8.out).mono ?_);rintro e w' ⟨rfl,⟨nd,rfl⟩⟩;(try first|exact ⟨rfl,_,World.drewN_drewN _ _ _⟩|exact ⟨rfl,_,Eq.trans (World.drewN_drewN _ _ _) (congrArg (World.drewN _) (Nat.add_assoc _ _ _))⟩))|(go_at_call 80;(with_reducible refine (repriseref1_in.calls a0 8203 8207 false _ A10.out).mono ?_);rintro e w' ⟨rfl,⟨nd,rfl⟩⟩;(try first|exact ⟨rfl,_,World.drewN_drewN _ _ _⟩|exact ⟨rfl,_,Eq.trans (World.drewN_drewN _ _ _) (congrArg (World.drewN _) (Nat.add_assoc _ _ _))⟩))|(go_at_call 80;(with_reducible refine (repriseref1_in.calls a0 65024 65039 t335 _ A12.out).mono ?_);rintro e w' ⟨rfl,⟨nd,rfl⟩⟩;(try first|exact ⟨rfl,_,World.drewN_drewN _ _ _⟩|exact ⟨rfl,_,Eq.trans (World.drewN_drewN _ _ _) (congrArg (World.drewN _) (Nat.add_assoc _ _ _))⟩)));try go_wp2_with (fail))
       go_meet
       case rel=>exact ⟨_,(t335),(by first|rfl|(simp;done)|(simp [*];done)),H',⟨by first|omega|exact Nat.le_refl _⟩,⟨by repeat (first|(with_reducible first|exact HB.out|apply below_alloc|apply pw_below_drewN|apply below_drew1)|exact HB.out)⟩⟩
  ·replace c4:=Bool.eq_false_iff.mpr c4;subst c4;have H1 : (repriseref1_Width.j0 k a0 true) = some r:=by rw [if_neg (show ¬ (false = true) by decide)] at H;exact H
   clear H;have H:=H1;clear H1;have H':=zA H;clear H;go_wp2_with (first|(go_at_call 48;(with_reducible refine (repriseref1_May.calls a0 false _ A3.out).mono ?_);rintro e w' ⟨rfl,⟨nd,rfl⟩⟩));repeat (go_quiet (first|(go_at_call 48;(with_reducible refine (repriseref1_May.calls a0 false _ A3.out).mono ?_);rintro e w' ⟨rfl,⟨nd,rfl⟩⟩;(try first|exact ⟨rfl,_,World.drewN_drewN _ _ _⟩|exact ⟨rfl,_,Eq.trans (World.drewN_drewN _ _ _) (congrArg (World.drewN _) (Nat.add_assoc _ _ _))⟩)));try go_wp2_with (fail))
   go_meet
   case rel=>exact ⟨_,(true),(by first|rfl|(simp;done)|(simp [*];done)),H',⟨by first|omega|exact Nat.le_refl _⟩,⟨by repeat (first|(with_reducible first|exact HB.out|apply below_alloc|apply pw_below_drewN|apply below_drew1)|exact HB.out)⟩⟩
 case rest =>
  clear HC2;(try clear c1);(try clear p2);(try clear c4);(try clear c5);(try clear c5b0);(try clear c7);(try clear c9);(try clear c11);obtain ⟨kq,x27_1,rfl,HA,HJ1,HB⟩:=hcut;cases kq with
 |zero=>exact absurd HA.out (by simp [repriseref1_Width.j0])
 |succ kj1 =>
   have H:=HA.out;clear HA;simp only [repriseref1_Width.j0] at H;by_cases c13 : x27_1 = true
   ·subst c13;have H1 : (some 0) = some r:=by rw [if_pos rfl] at H;exact H
    clear H;have H:=H1;clear H1;obtain rfl:=zY H;go_wp2;repeat (go_quiet (fail);try go_wp2)
    go_ret;exact ⟨by first|rfl|(simp [errW_none,errW_some] <;> rfl)|(simp [*,errW_none,errW_some] <;> rfl),by repeat (first|(with_reducible first|exact HB.out|apply below_alloc|apply pw_below_drewN|apply below_drew1)|exact HB.out)⟩
   ·replace c13:=Bool.eq_false_iff.mpr c13;subst c13;have H1 : (repriseref1_Width.l0 kj1 a0 (([4352,4447,11904,12350,12353,13311,13312,19903,19968,40959,40960,42191,44032,55203,63744,64255,65072,65135,65280,65376,65504,65510,127744,128591,129280,129535,131072,196605,196608,262141] : List Int)) 0) = some r:=by rw [if_neg (show ¬ (false = true) by decide)] at H;exact H
    clear H;have H:=H1;clear H1;obtain ⟨y336,hy336⟩ : ∃ y_ : List Int,y_ = (([4352,4447,11904,12350,12353,13311,13312,19903,19968,40959,40960,42191,44032,55203,63744,64255,65072,65135,65280,65376,65504,65510,127744,128591,129280,129535,131072,196605,196608,262141] : List Int)):=⟨_,rfl⟩;replace H : (repriseref1_Width.l0 kj1 a0 y336 0) = some r:=by first|(rw [hy336];with_reducible exact H)|(have H2_:=(zX _ _).symm.trans H;rw [hy336];with_reducible exact H2_)|(have H2_:=(zX _ _).symm.trans H;with_reducible exact H2_)|with_reducible exact H|(rw [hy336];exact H)|exact H
    have Ny336:=zA hy336;clear hy336;have H':=zA H;clear H;go_wp2_with (first|((with_reducible refine zG (N:=28) rfl ?_);refine Kd.R_lit (Kd.int .i32) _ 21 ?hg (N:=28) ?hd (xs:=([4352,4447,11904,12350,12353,13311,13312,19903,19968,40959,40960,42191,44032,55203,63744,64255,65072,65135,65280,65376,65504,65510,127744,128591,129280,129535,131072,196605,196608,262141] : List Int)) (inner:=[.int .i32 4352,.int .i32 4447,.int .i32 11904,.int .i32 12350,.int .i32 12353,.int .i32 13311,.int .i32 13312,.int .i32 19903,.int .i32 19968,.int .i32 40959,.int .i32 40960,.int .i32 42191,.int .i32 44032,.int .i32 55203,.int .i32 63744,.int .i32 64255,.int .i32 65072,.int .i32 65135,.int .i32 65280,.int .i32 65376,.int .i32 65504,.int .i32 65510,.int .i32 127744,.int .i32 128591,.int .i32 129280,.int .i32 129535,.int .i32 131072,.int .i32 196605,.int .i32 196608,.int .i32 262141]) (ok:=fun _=>True) (okp:=fun _=>True) ?hr ?hp (fun _ hk=>hk) trivial (zE _ _) (Nat.le_refl _) (by simp) ?_;(case hd=>rfl);(case hg=>rfl);(case hr=>first|(go_simp;done)|(go_simp;rfl));(case hp=>exact (Reps.one (show Kd.M (Kd.int .i32) _ _ _ 4352 [.int .i32 4352] from rfl) (Reps.one (show Kd.M (Kd.int .i32) _ _ _ 4447 [.int .i32 4447] from rfl) (Reps.one (show Kd.M (Kd.int .i32) _ _ _ 11904 [.int .i32 11904] from rfl) (Reps.one (show Kd.M (Kd.int .i32) _ _ _ 12350 [.int .i32 12350] from rfl) (Reps.one (show Kd.M (Kd.int .i32) _ _ _ 12353 [.int .i32 12353] from rfl) (Reps.one (show Kd.M (Kd.int .i32) _ _ _ 13311 [.int .i32 13311] from rfl) (Reps.one (show Kd.M (Kd.int .i32) _ _ _ 13312 [.int .i32 13312] from rfl) (Reps.one (show Kd.M (Kd.int .i32) _ _ _ 19903 [.int .i32 19903] from rfl) (Reps.one (show Kd.M (Kd.int .i32) _ _ _ 19968 [.int .i32 19968] from rfl) (Reps.one (show Kd.M (Kd.int .i32) _ _ _ 40959 [.int .i32 40959] from rfl) (Reps.one (show Kd.M (Kd.int .i32) _ _ _ 40960 [.int .i32 40960] from rfl) (Reps.one (show Kd.M (Kd.int .i32) _ _ _ 42191 [.int .i32 42191] from rfl) (Reps.one (show Kd.M (Kd.int .i32) _ _ _ 44032 [.int .i32 44032] from rfl) (Reps.one (show Kd.M (Kd.int .i32) _ _ _ 55203 [.int .i32 55203] from rfl) (Reps.one (show Kd.M (Kd.int .i32) _ _ _ 63744 [.int .i32 63744] from rfl) (Reps.one (show Kd.M (Kd.int .i32) _ _ _ 64255 [.int .i32 64255] from rfl) (Reps.one (show Kd.M (Kd.int .i32) _ _ _ 65072 [.int .i32 65072] from rfl) (Reps.one (show Kd.M (Kd.int .i32) _ _ _ 65135 [.int .i32 65135] from rfl) (Reps.one (show Kd.M (Kd.int .i32) _ _ _ 65280 [.int .i32 65280] from rfl) (Reps.one (show Kd.M (Kd.int .i32) _ _ _ 65376 [.int .i32 65376] from rfl) (Reps.one (show Kd.M (Kd.int .i32) _ _ _ 65504 [.int .i32 65504] from rfl) (Reps.one (show Kd.M (Kd.int .i32) _ _ _ 65510 [.int .i32 65510] from rfl) (Reps.one (show Kd.M (Kd.int .i32) _ _ _ 127744 [.int .i32 127744] from rfl) (Reps.one (show Kd.M (Kd.int .i32) _ _ _ 128591 [.int .i32 128591] from rfl) (Reps.one (show Kd.M (Kd.int .i32) _ _ _ 129280 [.int .i32 129280] from rfl) (Reps.one (show Kd.M (Kd.int .i32) _ _ _ 129535 [.int .i32 129535] from rfl) (Reps.one (show Kd.M (Kd.int .i32) _ _ _ 131072 [.int .i32 131072] from rfl) (Reps.one (show Kd.M (Kd.int .i32) _ _ _ 196605 [.int .i32 196605] from rfl) (Reps.one (show Kd.M (Kd.int .i32) _ _ _ 196608 [.int .i32 196608] from rfl) (Reps.one (show Kd.M (Kd.int .i32) _ _ _ 262141 [.int .i32 262141] from rfl) (Reps.none _ _))))))))))))))))))))))))))))))));intro v337 w14 ho15 hb hg_ hnew_;clear hg_ hnew_;(first|rw [← Ny336.out] at ho15|(simp only [Int.reduceToNat] at ho15;rw [← Ny336.out] at ho15));have n0_:=zA (Kd.R_lower ho15 (below_size (by repeat (first|(with_reducible first|exact HB.out|apply below_alloc|apply pw_below_drewN|apply below_drew1)|exact HB.out))));have n1_:=zA (below_step (by repeat (first|(with_reducible first|exact HB.out|apply below_alloc|apply pw_below_drewN|apply below_drew1)|exact HB.out)) hb);clear HB;have HO338:=n0_;have HB:=n1_;clear n0_ n1_;clear hb ho15));repeat (go_quiet (first|((with_reducible refine zG (N:=28) rfl ?_);refine Kd.R_lit (Kd.int .i32) _ 21 ?hg (N:=28) ?hd (xs:=([4352,4447,11904,12350,12353,13311,13312,19903,19968,40959,40960,42191,44032,55203,63744,64255,65072,65135,65280,65376,65504,65510,127744,128591,129280,129535,131072,196605,196608,262141] : List Int)) (inner:=[.int .i32 4352,.int .i32 4447,.int .i32 11904,.int .i32 12350,.int .i32 12353,.int .i32 13311,.int .i32 13312,.int .i32 19903,.int .i32 19968,.int .i32 40959,.int .i32 40960,.int .i32 42191,.int .i32 44032,.int .i32 55203,.int .i32 63744,.int .i32 64255,.int .i32 65072,.int .i32 65135,.int .i32 65280,.int .i32 65376,.int .i32 65504,.int .i32 65510,.int .i32 127744,.int .i32 128591,.int .i32 129280,.int .i32 129535,.int .i32 131072,.int .i32 196605,.int .i32 196608,.int .i32 262141]) (ok:=fun _=>True) (okp:=fun _=>True) ?hr ?hp (fun _ hk=>hk) trivial (zE _ _) (Nat.le_refl _) (by simp) ?_;(case hd=>rfl);(case hg=>rfl);(case hr=>first|(go_simp;done)|(go_simp;rfl));(case hp=>exact (Reps.one (show Kd.M (Kd.int .i32) _ _ _ 4352 [.int .i32 4352] from rfl) (Reps.one (show Kd.M (Kd.int .i32) _ _ _ 4447 [.int .i32 4447] from rfl) (Reps.one (show Kd.M (Kd.int .i32) _ _ _ 11904 [.int .i32 11904] from rfl) (Reps.one (show Kd.M (Kd.int .i32) _ _ _ 12350 [.int .i32 12350] from rfl) (Reps.one (show Kd.M (Kd.int .i32) _ _ _ 12353 [.int .i32 12353] from rfl) (Reps.one (show Kd.M (Kd.int .i32) _ _ _ 13311 [.int .i32 13311] from rfl) (Reps.one (show Kd.M (Kd.int .i32) _ _ _ 13312 [.int .i32 13312] from rfl) (Reps.one (show Kd.M (Kd.int .i32) _ _ _ 19903 [.int .i32 19903] from rfl) (Reps.one (show Kd.M (Kd.int .i32) _ _ _ 19968 [.int .i32 19968] from rfl) (Reps.one (show Kd.M (Kd.int .i32) _ _ _ 40959 [.int .i32 40959] from rfl) (Reps.one (show Kd.M (Kd.int .i32) _ _ _ 40960 [.int .i32 40960] from rfl) (Reps.one (show Kd.M (Kd.int .i32) _ _ _ 42191 [.int .i32 42191] from rfl) (Reps.one (show Kd.M (Kd.int .i32) _ _ _ 44032 [.int .i32 44032] from rfl) (Reps.one (show Kd.M (Kd.int .i32) _ _ _ 55203 [.int .i32 55203] from rfl) (Reps.one (show Kd.M (Kd.int .i32) _ _ _ 63744 [.int .i32 63744] from rfl) (Reps.one (show Kd.M (Kd.int .i32) _ _ _ 64255 [.int .i32 64255] from rfl) (Reps.one (show Kd.M (Kd.int .i32) _ _ _ 65072 [.int .i32 65072] from rfl) (Reps.one (show Kd.M (Kd.int .i32) _ _ _ 65135 [.int .i32 65135] from rfl) (Reps.one (show Kd.M (Kd.int .i32) _ _ _ 65280 [.int .i32 65280] from rfl) (Reps.one (show Kd.M (Kd.int .i32) _ _ _ 65376 [.int .i32 65376] from rfl) (Reps.one (show Kd.M (Kd.int .i32) _ _ _ 65504 [.int .i32 65504] from rfl) (Reps.one (show Kd.M (Kd.int .i32) _ _ _ 65510 [.int .i32 65510] from rfl) (Reps.one (show Kd.M (Kd.int .i32) _ _ _ 127744 [.int .i32 127744] from rfl) (Reps.one (show Kd.M (Kd.int .i32) _ _ _ 128591 [.int .i32 128591] from rfl) (Reps.one (show Kd.M (Kd.int .i32) _ _ _ 129280 [.int .i32 129280] from rfl) (Reps.one (show Kd.M (Kd.int .i32) _ _ _ 129535 [.int .i32 129535] from rfl) (Reps.one (show Kd.M (Kd.int .i32) _ _ _ 131072 [.int .i32 131072] from rfl) (Reps.one (show Kd.M (Kd.int .i32) _ _ _ 196605 [.int .i32 196605] from rfl) (Reps.one (show Kd.M (Kd.int .i32) _ _ _ 196608 [.int .i32 196608] from rfl) (Reps.one (show Kd.M (Kd.int .i32) _ _ _ 262141 [.int .i32 262141] from rfl) (Reps.none _ _))))))))))))))))))))))))))))))));intro v337 w14 ho15 hb hg_ hnew_;clear hg_ hnew_;(first|rw [← Ny336.out] at ho15|(simp only [Int.reduceToNat] at ho15;rw [← Ny336.out] at ho15));have n0_:=zA (Kd.R_lower ho15 (below_size (by repeat (first|(with_reducible first|exact HB.out|apply below_alloc|apply pw_below_drewN|apply below_drew1)|exact HB.out))));have n1_:=zA (below_step (by repeat (first|(with_reducible first|exact HB.out|apply below_alloc|apply pw_below_drewN|apply below_drew1)|exact HB.out)) hb);clear HB;have HO338:=n0_;have HB:=n1_;clear n0_ n1_;clear hb ho15));try go_wp2_with (fail))
    go_loopg [4] kj1 (fun kq v4 w'=>∃ (x4_2 : Int),v4 = .int .i64 x4_2∧Aside0 (repriseref1_Width.l0 kq a0 y336 x4_2 = some r)∧Aside0 (kq ≤ kj1)∧Aside0 (Kd.R (Kd.int .i32) 21 w' w.heap.size (fun _=>True) v337 y336)∧Aside0 (Below w.heap.size w w'))
    case atStart=>exact ⟨(0),(by first|rfl|(simp;done)|(simp [*];done)),H',⟨Nat.le_refl _⟩,⟨by (with_reducible repeat (first|apply Kd.R_alloc|apply Kd.R_drewN|apply Kd.R_drew));exact HO338.out⟩,⟨by repeat (first|(with_reducible first|exact HB.out|apply below_alloc|apply pw_below_drewN|apply below_drew1)|exact HB.out)⟩⟩
    case round =>
     clear H';(try clear c1);(try clear p2);(try clear c4);(try clear c5);(try clear c5b0);(try clear c7);(try clear c9);(try clear c11);(try clear c13);(try clear p2);obtain ⟨x4_2,rfl,HA,HK2,HO_3,HB⟩:=hrel;cases gk with
    |zero=>exact absurd HA.out (by simp [repriseref1_Width.l0])
    |succ k2 =>
      have H:=HA.out;clear HA;simp only [repriseref1_Width.l0] at H;by_cases c16 : x4_2 < (y336.length : Int)
      ·rw [if_pos c16] at H;have c16b0 : decide (x4_2 < (y336.length : Int)) = true:=zC c16;clear c16;by_cases c17 : 0 ≤ x4_2
       ·rw [if_pos c17] at H;have c17b0 : decide (0 ≤ x4_2) = true:=zC c17;clear c17;obtain ⟨ji18,hji18⟩ : ∃ j_ : Int,(wrap64 (x4_2 + 1)) = j_:=⟨_,rfl⟩;replace H : (if 0 ≤ (ji18) then (if (ji18) < (y336.length : Int) then ((repriseref1_in.f a0 (rd y336 x4_2) (rd y336 (ji18))).bind fun t341=>(if t341 = true then (some 2) else (repriseref1_Width.l0 k2 a0 y336 (wrap64 (x4_2 + 2))))) else (none)) else (none)) = some r:=by first|(rw [hji18] at H;exact H)|(simp only [hji18] at H ⊢;exact H)
        have hji18w : (IntKind.i64.wrap (x4_2 + 1)) = ji18:=(i64_w _).trans hji18;by_cases c19 : 0 ≤ (ji18)
        ·rw [if_pos c19] at H;have c19b0 : decide (0 ≤ (ji18)) = true:=zC c19;clear c19;by_cases c20 : (ji18) < (y336.length : Int)
         ·rw [if_pos c20] at H;have c20b0 : decide ((ji18) < (y336.length : Int)) = true:=zC c20;clear c20;replace H:=Option.bind_eq_some_iff.mp H;obtain ⟨t341,A210,H⟩:=H;replace H : (if t341 = true then (some 2) else (repriseref1_Width.l0 k2 a0 y336 (wrap64 (x4_2 + 2)))) = some r:=H;have A21:=zA A210;clear A210;by_cases c22 : t341 = true
          ·subst c22;have H1 : (some 2) = some r:=by rw [if_pos rfl] at H;exact H
           clear H;have H:=H1;clear H1;obtain rfl:=zY H;obtain ⟨Ao23,co23,eo23⟩:=Kd.R_slice HO_3.out;subst eo23;have p339 : 0 ≤ (x4_2 : Int):=of_decide_eq_true (by first|(with_reducible assumption)|assumption);have q339 : x4_2 < (y336.length : Int):=of_decide_eq_true (by first|(with_reducible assumption)|assumption);obtain ⟨ad339,e339,hx339_0⟩:=Kd.at_int (Kd.R_reads' HO_3.out).2.2 x4_2 p339 q339;cases e339;replace p339:=eq_true p339;replace q339:=eq_true q339;have p340 : 0 ≤ ((ji18) : Int):=of_decide_eq_true (by first|(with_reducible assumption)|assumption);have q340 : (ji18) < (y336.length : Int):=of_decide_eq_true (by first|(with_reducible assumption)|assumption);obtain ⟨ad340,e340,hx340_0⟩:=Kd.at_int (Kd.R_reads' HO_3.out).2.2 (ji18) p340 q340;obtain rfl : ad339 = ad340:=(by injection e340);replace p340:=eq_true p340;replace q340:=eq_true q340;go_wp2_with (fail);repeat (go_quiet (first|(go_at_call 80;(with_reducible refine (repriseref1_in.calls a0 (rd y336 x4_2) (rd y336 (ji18)) true _ A21.out).mono ?_);rintro e w' ⟨rfl,⟨nd,rfl⟩⟩;(try first|exact ⟨rfl,_,World.drewN_drewN _ _ _⟩|exact ⟨rfl,_,Eq.trans (World.drewN_drewN _ _ _) (congrArg (World.drewN _) (Nat.add_assoc _ _ _))⟩)));try go_wp2_with (fail))
           go_ret;exact ⟨by first|rfl|(simp [errW_none,errW_some] <;> rfl)|(simp only [← hji18];first|rfl|(simp [errW_none,errW_some] <;> rfl))|(simp [*,errW_none,errW_some] <;> rfl),by repeat (first|(with_reducible first|exact HB.out|apply below_alloc|apply pw_below_drewN|apply below_drew1)|exact HB.out)⟩
          ·replace c22:=Bool.eq_false_iff.mpr c22;subst c22;have H1 : (repriseref1_Width.l0 k2 a0 y336 (wrap64 (x4_2 + 2))) = some r:=by rw [if_neg (show ¬ (false = true) by decide)] at H;exact H
           clear H;have H:=H1;clear H1;have H':=zA H;clear H;obtain ⟨Ao24,co24,eo24⟩:=Kd.R_slice HO_3.out;subst eo24;have p339 : 0 ≤ (x4_2 : Int):=of_decide_eq_true (by first|(with_reducible assumption)|assumption);have q339 : x4_2 < (y336.length : Int):=of_decide_eq_true (by first|(with_reducible assumption)|assumption);obtain ⟨ad339,e339,hx339_0⟩:=Kd.at_int (Kd.R_reads' HO_3.out).2.2 x4_2 p339 q339;cases e339;replace p339:=eq_true p339;replace q339:=eq_true q339;have p340 : 0 ≤ ((ji18) : Int):=of_decide_eq_true (by first|(with_reducible assumption)|assumption);have q340 : (ji18) < (y336.length : Int):=of_decide_eq_true (by first|(with_reducible assumption)|assumption);obtain ⟨ad340,e340,hx340_0⟩:=Kd.at_int (Kd.R_reads' HO_3.out).2.2 (ji18) p340 q340;obtain rfl : ad339 = ad340:=(by injection e340);replace p340:=eq_true p340;replace q340:=eq_true q340;go_wp2_with (fail);repeat (go_quiet (first|(go_at_call 80;(with_reducible refine (repriseref1_in.calls a0 (rd y336 x4_2) (rd y336 (ji18)) false _ A21.out).mono ?_);rintro e w' ⟨rfl,⟨nd,rfl⟩⟩;(try first|exact ⟨rfl,_,World.drewN_drewN _ _ _⟩|exact ⟨rfl,_,Eq.trans (World.drewN_drewN _ _ _) (congrArg (World.drewN _) (Nat.add_assoc _ _ _))⟩)));try go_wp2_with (fail))
           go_roundg k2
           case measure=>have:=HJ1.out;have:=HK2.out;omega
           case rel=>exact ⟨(wrap64 (x4_2 + 2)),(by first|rfl|(simp;done)|(simp [*];done)),H',⟨by have:=HJ1.out;have:=HK2.out;omega⟩,⟨by (with_reducible repeat (first|apply Kd.R_alloc|apply Kd.R_drewN|apply Kd.R_drew));exact HO_3.out⟩,⟨by repeat (first|(with_reducible first|exact HB.out|apply below_alloc|apply pw_below_drewN|apply below_drew1)|exact HB.out)⟩⟩
         ·rw [if_neg c20] at H;exact absurd H (by simp)
        ·rw [if_neg c19] at H;exact absurd H (by simp)
       ·rw [if_neg c17] at H;exact absurd H (by simp)
      ·rw [if_neg c16] at H;have c16b0 : decide (x4_2 < (y336.length : Int)) = false:=zD c16;clear c16;obtain rfl:=zY H;obtain ⟨Ao25,co25,eo25⟩:=Kd.R_slice HO_3.out;subst eo25;go_wp2;repeat (go_quiet (fail);try go_wp2)
       go_ret;exact ⟨by first|rfl|(simp [errW_none,errW_some] <;> rfl)|(simp [*,errW_none,errW_some] <;> rfl),by repeat (first|(with_reducible first|exact HB.out|apply below_alloc|apply pw_below_drewN|apply below_drew1)|exact HB.out)⟩
end Go.Proofs.Ytooageeehallbaa.QRunsCut
namespace Go.Proofs.Ytooageeehallbaa
open Go Go.RowKit Go.Proofs.YtooageeehallbaaW.PrintWords Go.Proofs.YtooageeehallbaaW.PrintLast Go.Proofs.YtooageeehallbaaW.PrintMore
abbrev zH := @gate_store
end Go.Proofs.Ytooageeehallbaa
namespace Go.Proofs.Ytooageeehallbaa.QRunsCut
open Go.RowKit Go.Proofs.YtooageeehallbaaW.PrintWords Go.Proofs.YtooageeehallbaaW.PrintLast Go.Proofs.YtooageeehallbaaW.PrintMore
attribute [local go_sem] max2_int min2_int max_two min_two max_three min_three max_four min_four 
set_option linter.unusedVariables false
set_option linter.unusedSimpArgs false
/-! ### repriseref7_blank: function 53 -/
def repriseref7_blank.f  : Option (Int × Int × Int):=some (32,0,0)
set_option maxHeartbeats 8000000 in
set_option maxRecDepth 100000 in
theorem repriseref7_blank.calls  (r1 : Int) (r2 : Int) (r3 : Int) (w : World) (h : repriseref7_blank.f  = some (r1,r2,r3)) :
 Calls Try.prog 53 #[] w fun e w'=>e = .returned (.agg #[.int .i32 r1,.int .u16 r2,.int .u8 r3])∧Below w.heap.size w w':=by
 have hu35:=Try.underlying35;have HB:=zA (zE w.heap.size w);have H : (some (32,0,0)) = some (r1,r2,r3):=h;clear h;simp only [Option.some.injEq,Prod.mk.injEq] at H;obtain ⟨rfl,rfl,rfl⟩:=H;go_enter Try.func53,Try.ntmps53
 go_wp2_with (((with_reducible refine zG (N:=0) rfl ?_);refine box_event ?hg (N:=0) ?hd (cs:=#[.int .i32 0,.int .u16 0,.int .u8 0]) (t:=35) ?hr ?_;(case hd=>rfl);(case hg=>rfl);(case hr=>(go_simp;done));intro gb101 hg w1 hbox hb;have n0_:=zA (below_step HB.out hb);have n1_:=zA (hbox);have n2_:=zA ((by rw [hg];exact (below_size HB.out) : w.heap.size ≤ gb101));have n3_:=zA ((by rw [hg];exact (below_size HB.out) : w.heap.size ≤ gb101));clear HB;have HB:=n0_;have BK101:=n1_;have GW101:=n2_;have GE101:=n3_;clear n0_ n1_ n2_ n3_;clear hb hbox hg;have hcz2_0 : w1.cell? ⟨gb101,0,none⟩ = some (.int .i32 0):=(blk_cell BK101.out 0).trans rfl;have hcz2_1 : w1.cell? ⟨gb101,1,none⟩ = some (.int .u16 0):=(blk_cell BK101.out 1).trans rfl;have hcz2_2 : w1.cell? ⟨gb101,2,none⟩ = some (.int .u8 0):=(blk_cell BK101.out 2).trans rfl;have hfz2_0:=blk_frozen BK101.out 0;have hfz2_1:=blk_frozen BK101.out 1;have hfz2_2:=blk_frozen BK101.out 2));refine bodyPost_ret (results_cell_row rfl _ _ gb101 35 #[.int .i32 32,.int .u16 0,.int .u8 0] (0,0) _ rfl (by refine blk_put (cs:=#[.int .i32 32,.int .u16 0,.int .u8 0]) ?_ 2 _ rfl;refine blk_put (cs:=#[.int .i32 32,.int .u16 0,.int .u8 0]) ?_ 1 _ rfl;refine blk_put (cs:=#[.int .i32 0,.int .u16 0,.int .u8 0]) ?_ 0 _ rfl;exact BK101.out) Try.underlying35 rfl (by kernel_rfl)) rfl ?_;exact ⟨by rfl,by repeat ((with_reducible first|exact HB.out|refine below_set ?_ GE101.out))⟩
/-! ### repriseref7_Blank: function 35 -/
mutual
def repriseref7_Blank.j0 : Nat → Int → Int → Bool → Option ((List (S35)))
|0,_,_,_=>none
|k + 1,x0,x1,x20=>if x20 = true then (some ([] : List (S35))) else (if 0 ≤ (wrap64 (x0 * x1)) then (if (wrap64 (x0 * x1) : Int).toNat ≤ 35184372088832 then (repriseref7_Blank.l0 k (List.replicate (wrap64 (x0 * x1) : Int).toNat z35) 0) else (none)) else (none))
def repriseref7_Blank.l0 : Nat → List (S35) → Int → Option ((List (S35)))
|0,_,_=>none
|k + 1,x5,x6=>if x6 < (x5.length : Int) then ((repriseref7_blank.f).bind fun bt105=>(if 0 ≤ x6 then (repriseref7_Blank.l0 k (x5.set (x6 : Int).toNat (⟨bt105.1,bt105.2.1,bt105.2.2⟩ : S35)) (wrap64 (x6 + 1))) else (none))) else (some x5)
end
def repriseref7_Blank.f (k : Nat) (a0 : Int) (a1 : Int) : Option ((List (S35))):=if a0 < 1 then (repriseref7_Blank.j0 k a0 a1 true) else (if a0 > 1000 then (repriseref7_Blank.j0 k a0 a1 true) else (if a1 < 1 then (repriseref7_Blank.j0 k a0 a1 true) else (repriseref7_Blank.j0 k a0 a1 (decide (a1 > 1000)))))
theorem repriseref7_Blank.mono_l : ∀ k,(∀ y0 y1 y2,LeO (repriseref7_Blank.j0 k y0 y1 y2) (repriseref7_Blank.j0 (k + 1) y0 y1 y2))∧(∀ y0 y1,LeO (repriseref7_Blank.l0 k y0 y1) (repriseref7_Blank.l0 (k + 1) y0 y1))
|0=>⟨fun _ _ _ r h=>by simp [repriseref7_Blank.j0] at h,fun _ _ r h=>by simp [repriseref7_Blank.l0] at h⟩
|k + 1=>by
  obtain ⟨ih0,ih1⟩:=repriseref7_Blank.mono_l k;refine ⟨?_,?_⟩
  ·intro y0 y1 y2;unfold repriseref7_Blank.j0;repeat' first
  |(with_reducible exact ih0 _ _ _)
  |(with_reducible exact ih1 _ _)
  |(with_reducible exact LeO.refl _)
  |(with_reducible exact LeO.none _)
  |(with_reducible refine LeO.ite ?_ ?_)
  |(with_reducible refine LeO.bind ?_ (fun _=>?_))
  |exact ih0 _ _ _
  |exact ih1 _ _
  |exact LeO.none _
  |refine LeO.ite ?_ ?_
  |refine LeO.bind ?_ (fun _=>?_)
  ·intro y0 y1;unfold repriseref7_Blank.l0;repeat' first
  |(with_reducible exact ih0 _ _ _)
  |(with_reducible exact ih1 _ _)
  |(with_reducible exact LeO.refl _)
  |(with_reducible exact LeO.none _)
  |(with_reducible refine LeO.ite ?_ ?_)
  |(with_reducible refine LeO.bind ?_ (fun _=>?_))
  |exact ih0 _ _ _
  |exact ih1 _ _
  |exact LeO.none _
  |refine LeO.ite ?_ ?_
  |refine LeO.bind ?_ (fun _=>?_)
theorem repriseref7_Blank.mono : ∀ a0 a1 k,LeO (repriseref7_Blank.f k a0 a1) (repriseref7_Blank.f (k + 1) a0 a1):=by
 intro a0 a1 k;obtain ⟨ih0,ih1⟩:=repriseref7_Blank.mono_l k;unfold repriseref7_Blank.f;repeat' first
 |(with_reducible exact ih0 _ _ _)
 |(with_reducible exact ih1 _ _)
 |(with_reducible exact LeO.refl _)
 |(with_reducible exact LeO.none _)
 |(with_reducible refine LeO.ite ?_ ?_)
 |(with_reducible refine LeO.bind ?_ (fun _=>?_))
 |exact ih0 _ _ _
 |exact ih1 _ _
 |exact LeO.none _
 |refine LeO.ite ?_ ?_
 |refine LeO.bind ?_ (fun _=>?_)
set_option maxHeartbeats 8000000 in
set_option maxRecDepth 100000 in
theorem repriseref7_Blank.calls (k : Nat) (a0 : Int) (a1 : Int) (r : List (S35)) (w : World) (h : repriseref7_Blank.f k a0 a1 = some r) :
 Calls Try.prog 35 #[.int .i64 a0,.int .i64 a1] w fun e w'=>∃ v0_ : Value,e = .returned (v0_)∧Kd.R k35 35 w' w.heap.size (fun _=>True) v0_ r∧Below w.heap.size w w':=by
 have hu35:=Try.underlying35;have HB:=zA (zE w.heap.size w);have H : (if a0 < 1 then (repriseref7_Blank.j0 k a0 a1 true) else (if a0 > 1000 then (repriseref7_Blank.j0 k a0 a1 true) else (if a1 < 1 then (repriseref7_Blank.j0 k a0 a1 true) else (repriseref7_Blank.j0 k a0 a1 (decide (a1 > 1000)))))) = some r:=h;clear h;have HC3:=zA H;clear H;go_enter Try.func35,Try.ntmps35
 go_upto_region 1 with (fail)
 go_cut [20] (fun v20 wc=>∃ (kq : Nat) (x20_2 : Bool),v20 = .bool x20_2∧Aside0 (repriseref7_Blank.j0 kq a0 a1 x20_2 = some r)∧Aside0 (kq ≤ k)∧Aside0 (Below w.heap.size w wc))
 case first =>
  have H:=HC3.out;clear HC3;by_cases c4 : a0 < 1
  ·rw [if_pos c4] at H;have c4b0 : decide (a0 < 1) = true:=zC c4;clear c4;have H':=zA H;clear H;go_wp2;go_meet
   case rel=>exact ⟨_,(true),(by rfl),H',⟨by omega⟩,⟨HB.out⟩⟩
  ·rw [if_neg c4] at H;have c4b0 : decide (a0 < 1) = false:=zD c4;clear c4;by_cases c5 : a0 > 1000
   ·rw [if_pos c5] at H;have c5b0 : decide (1000 < a0) = true:=zC c5;clear c5;have H':=zA H;clear H;go_wp2;go_meet
    case rel=>exact ⟨_,(true),(by rfl),H',⟨by omega⟩,⟨HB.out⟩⟩
   ·rw [if_neg c5] at H;have c5b0 : decide (1000 < a0) = false:=zD c5;clear c5;by_cases c6 : a1 < 1
    ·rw [if_pos c6] at H;have c6b0 : decide (a1 < 1) = true:=zC c6;clear c6;have H':=zA H;clear H;go_wp2;go_meet
     case rel=>exact ⟨_,(true),(by rfl),H',⟨by omega⟩,⟨HB.out⟩⟩
    ·rw [if_neg c6] at H;have c6b0 : decide (a1 < 1) = false:=zD c6;clear c6;have H':=zA H;clear H;go_wp2;go_meet
     case rel=>exact ⟨_,(decide (a1 > 1000)),(by rfl),H',⟨by omega⟩,⟨HB.out⟩⟩
 case rest =>
  clear HC3;(try clear p2);(try clear c3);(try clear c4);(try clear c4b0);(try clear c5);(try clear c5b0);(try clear c6);(try clear c6b0);obtain ⟨kq,x20_2,rfl,HA,HJ2,HB⟩:=hcut;cases kq with
 |zero=>exact absurd HA.out (by simp [repriseref7_Blank.j0])
 |succ kj2 =>
   have H:=HA.out;clear HA;simp only [repriseref7_Blank.j0] at H;by_cases c7 : x20_2 = true
   ·subst c7;have H1 : (some ([] : List (S35))) = some r:=by rw [if_pos rfl] at H;exact H
    clear H;have H:=H1;clear H1;obtain rfl:=zY H;go_wp2;go_ret;exact ⟨_,by rfl,by exact Kd.R_nil _ _ _ _ _,HB.out⟩
   ·replace c7:=Bool.eq_false_iff.mpr c7;subst c7;have H1 : (if 0 ≤ (wrap64 (a0 * a1)) then (if (wrap64 (a0 * a1) : Int).toNat ≤ 35184372088832 then (repriseref7_Blank.l0 kj2 (List.replicate (wrap64 (a0 * a1) : Int).toNat z35) 0) else (none)) else (none)) = some r:=by rw [if_neg (show ¬ (false = true) by decide)] at H;exact H
    clear H;have H:=H1;clear H1;obtain ⟨ji8,hji8⟩ : ∃ j_ : Int,(wrap64 (a0 * a1)) = j_:=⟨_,rfl⟩;replace H : (if 0 ≤ (ji8) then (if (ji8 : Int).toNat ≤ 35184372088832 then (repriseref7_Blank.l0 kj2 (List.replicate (ji8 : Int).toNat z35) 0) else (none)) else (none)) = some r:=by (rw [hji8] at H;exact H)
    have hji8w : (IntKind.i64.wrap (a0 * a1)) = ji8:=(i64_w _).trans hji8;by_cases c9 : 0 ≤ (ji8)
    ·rw [if_pos c9] at H;have c9b0:=eq_true c9;have c9b1 : decide (0 ≤ (ji8)) = true:=zC c9;clear c9;by_cases c10 : (ji8 : Int).toNat ≤ 35184372088832
     ·rw [if_pos c10] at H;have c10b0:=eq_true c10;have c10b1 : decide ((ji8 : Int).toNat ≤ 35184372088832) = true:=zC c10;clear c10;obtain ⟨y102,hy102⟩ : ∃ y_ : List (S35),y_ = (List.replicate (ji8 : Int).toNat z35):=⟨_,rfl⟩;replace H : (repriseref7_Blank.l0 kj2 y102 0) = some r:=by (rw [hy102];with_reducible exact H)
      have Ny102:=zA hy102;clear hy102;have H':=zA H;clear H;go_wp2_with (((with_reducible refine zG (N:=24) rfl ?_);refine Kd.R_make k35 _ 35 rfl (N:=24) rfl 24 _ _ rfl ji8 rfl rfl Try.underlying24 (.agg #[(.int .i32 0),(.int .u16 0),(.int .u8 0)]) 8 info35 rfl (by decide) (by omega) z35 (ok:=fun _=>True) (okp:=fun _=>True) (k35_mkM _ _ _ z35 ) (fun _ hk=>hk) trivial od (Nat.le_trans (Nat.mul_le_mul_right _ (od : ji8.toNat ≤ 35184372088832)) (by omega)) (zE _ _) (Nat.le_refl _) ?_;intro v103 w11 ho12 hb hg_ hnew_;clear hg_ hnew_;(rw [← Ny102.out] at ho12);have n0_:=zA (Kd.R_lower ho12 (below_size HB.out));have n1_:=zA (below_step HB.out hb);clear HB;have HO104:=n0_;have HB:=n1_;clear n0_ n1_;clear hb ho12));go_loopg [6] kj2 (fun kq v6 w'=>∃ (x5_2 : List (S35)) (x6_2 : Int),v6 = .int .i64 x6_2∧Aside0 (repriseref7_Blank.l0 kq x5_2 x6_2 = some r)∧Aside0 (kq ≤ kj2)∧Aside0 (Kd.R k35 35 w' w.heap.size (fun _=>True) v103 x5_2)∧Aside0 (Below w.heap.size w w'))
      case atStart=>exact ⟨(y102),(0),(by rfl),H',⟨Nat.le_refl _⟩,⟨HO104.out⟩,⟨HB.out⟩⟩
      case round =>
       clear H';(try clear c1);(try clear p2);(try clear c3);(try clear c4);(try clear c4b0);(try clear c5);(try clear c5b0);(try clear c6);(try clear c6b0);(try clear p6);(try clear c7);(try clear c9);(try clear c9b0);(try clear c9b1);(try clear c10);(try clear c10b0);(try clear c10b1);(try clear p2);obtain ⟨x5_2,x6_2,rfl,HA,HK2,HO_5,HB⟩:=hrel;cases gk with
      |zero=>exact absurd HA.out (by simp [repriseref7_Blank.l0])
      |succ k2 =>
        have H:=HA.out;clear HA;simp only [repriseref7_Blank.l0] at H;by_cases c13 : x6_2 < (x5_2.length : Int)
        ·rw [if_pos c13] at H;have c13b0 : decide (x6_2 < (x5_2.length : Int)) = true:=zC c13;clear c13;replace H:=Option.bind_eq_some_iff.mp H;obtain ⟨⟨t105,t106,t107⟩,A140,H⟩:=H;replace H : (if 0 ≤ x6_2 then (repriseref7_Blank.l0 k2 (x5_2.set (x6_2 : Int).toNat (⟨t105,t106,t107⟩ : S35)) (wrap64 (x6_2 + 1))) else (none)) = some r:=H;have A14:=zA A140;clear A140;by_cases c15 : 0 ≤ x6_2
         ·rw [if_pos c15] at H;have c15b0 : decide (0 ≤ x6_2) = true:=zC c15;clear c15;obtain ⟨y108,hy108⟩ : ∃ y_ : List (S35),y_ = (x5_2.set (x6_2 : Int).toNat (⟨t105,t106,t107⟩ : S35)):=⟨_,rfl⟩;replace H : (repriseref7_Blank.l0 k2 y108 (wrap64 (x6_2 + 1))) = some r:=by (rw [hy108];with_reducible exact H)
          have Ny108:=zA hy108;clear hy108;have H':=zA H;clear H;obtain ⟨Ao17,co17,eo17⟩:=Kd.R_slice HO_5.out;subst eo17;go_wp2_with (first|((with_reducible refine zI (f:=53) rfl ?_);refine goesL_ (some 33) rfl rfl Try.func53 (by kernel_rfl) rfl #[] rfl (by (try simp only [zS,zT,zU]);done) ?_;(with_reducible refine (repriseref7_blank.calls  t105 t106 t107 _ A14.out).mono ?_);rintro e w18 ⟨rfl,hb⟩;refine ⟨_,rfl,?_⟩;have n0_:=zA (Kd.R_below HO_5.out hb);have n1_:=zA (below_step HB.out hb);clear HO_5;clear HB;have HO_5:=n0_;have HB:=n1_;clear n0_ n1_;(try clear hb);have p16 : 0 ≤ (x6_2 : Int):=od;have q16 : (x6_2 : Int) < ((x5_2.length : Int) : Int):=od;obtain ⟨go16,co16,eo16,gb16,gl16,cl16,HG16⟩:=Kd.R_form HO_5.out (by omega);(cases eo16);have GB16:=zA gb16;have GG16:=zA HG16;clear gb16 gl16 HG16;obtain ⟨ce16,hcl16,hM16,hcc16,hfr16⟩:=Kd.R_elem HO_5.out z35 (x6_2 : Int) p16 q16;obtain rfl:=k35_openM hM16;have hx16_0 : w18.cell? ⟨go16,(x6_2 : Int).toNat * 3,none⟩ = some (.int .i32 ((rd_T35 x5_2 x6_2).f0)):=hcc16 0 _ rfl;have hx16_1 : w18.cell? ⟨go16,(x6_2 : Int).toNat * 3 + 1,none⟩ = some (.int .u16 ((rd_T35 x5_2 x6_2).f1)):=hcc16 1 _ rfl;have hx16_2 : w18.cell? ⟨go16,(x6_2 : Int).toNat * 3 + 2,none⟩ = some (.int .u8 ((rd_T35 x5_2 x6_2).f2)):=hcc16 2 _ rfl;have hf16_0 : w18.frozen? ⟨go16,(x6_2 : Int).toNat * 3,none⟩ = false:=hfr16 0;have hf16_1 : w18.frozen? ⟨go16,(x6_2 : Int).toNat * 3 + 1,none⟩ = false:=hfr16 1;have hf16_2 : w18.frozen? ⟨go16,(x6_2 : Int).toNat * 3 + 2,none⟩ = false:=hfr16 2;clear hcl16 hcc16 hfr16 hM16;replace p16:=eq_true p16;replace q16:=eq_true q16;have HX19:=zA (show Kd.R k35 35 w18 w.heap.size (fun _=>True) (.slice (some ⟨go16,0,none⟩) x5_2.length co17) x5_2 from HO_5.out);obtain ⟨ce19,hcl19,hM19,hcc19,hfr19⟩:=Kd.R_elem HX19.out z35 (x6_2 : Int) od (by have h_ : (x6_2 : Int) < ((x5_2.length : Int) : Int):=od;exact h_);obtain rfl:=k35_openM hM19;have HP19:=Kd.R_seg HX19.out (x6_2 : Int) od (by have h_ : (x6_2 : Int) < ((x5_2.length : Int) : Int):=od;exact h_) (seg:=[.int .i32 t105,.int .u16 t106,.int .u8 t107]) (j:=0) hcl19 hcc19 (show 3 ≤ 3 from by decide) (x':=(⟨t105,t106,t107⟩ : S35)) (k35_mkM _ _ _ (⟨t105,t106,t107⟩ : S35) ) (fun _ hk=>hk);have hx19_0:=hcc19 0 _ rfl;(try simp only [show (k35).sz = 3 from rfl,Nat.mul_one,Nat.add_zero] at hx19_0);have hf19_0:=hfr19 0;(try simp only [show (k35).sz = 3 from rfl,Nat.mul_one,Nat.add_zero] at hf19_0);have hx19_1:=hcc19 1 _ rfl;(try simp only [show (k35).sz = 3 from rfl,Nat.mul_one,Nat.add_zero] at hx19_1);have hf19_1:=hfr19 1;(try simp only [show (k35).sz = 3 from rfl,Nat.mul_one,Nat.add_zero] at hf19_1);have hx19_2:=hcc19 2 _ rfl;(try simp only [show (k35).sz = 3 from rfl,Nat.mul_one,Nat.add_zero] at hx19_2);have hf19_2:=hfr19 2;(try simp only [show (k35).sz = 3 from rfl,Nat.mul_one,Nat.add_zero] at hf19_2);clear hcl19 hcc19 hfr19 hM19)|((with_reducible refine zH (t:=35) (p:=34) rfl ?_);refine store_event (t:=35) (p:=34) (v:=?vo_w20) (w1:=(((w18.setCell ⟨go16,(x6_2 : Int).toNat * 3,none⟩ (.int .i32 t105)).setCell ⟨go16,(x6_2 : Int).toNat * 3 + 1,none⟩ (.int .u16 t106)).setCell ⟨go16,(x6_2 : Int).toNat * 3 + 2,none⟩ (.int .u8 t107))) ?hg ?ho ?hn ?hr ?_;(case ho=>rfl);(case hg=>rfl);(case hn=>rfl);(case hr=>(go_simp;done));intro w20 hw;have hg : w18.grownBy w20 (some go16):=(by rw [hw];exact HP19.2);have hp_ : Kd.R k35 35 w20 w.heap.size (fun _=>True) (.slice (some ⟨go16,0,none⟩) x5_2.length co17) y108:=(by rw [hw,Ny108.out];exact HP19.1);clear HP19;have n0_:=zA (hp_);have n1_:=zA ((by rw [hw];exact below_set (below_set (below_set (HB.out) GB16.out) GB16.out) GB16.out : Below w.heap.size w w20));clear HO_5;clear HB;have HO_5:=n0_;have HB:=n1_;clear n0_ n1_;clear hg hw hp_));go_roundg k2
          case measure=>have:=HJ2.out;have:=HK2.out;omega
          case rel=>exact ⟨(y108),(wrap64 (x6_2 + 1)),(by rfl),H',⟨by have:=HJ2.out;have:=HK2.out;omega⟩,⟨HO_5.out⟩,⟨HB.out⟩⟩
         ·rw [if_neg c15] at H;exact absurd H (by simp)
        ·rw [if_neg c13] at H;have c13b0 : decide (x6_2 < (x5_2.length : Int)) = false:=zD c13;clear c13;obtain rfl:=zY H;obtain ⟨Ao21,co21,eo21⟩:=Kd.R_slice HO_5.out;subst eo21;go_wp2;go_ret;exact ⟨_,by rfl,HO_5.out,HB.out⟩
     ·rw [if_neg c10] at H;exact absurd H (by simp)
    ·rw [if_neg c9] at H;exact absurd H (by simp)
-- NOT PRINTED: function 36 (repriseref7_New)
end Go.Proofs.Ytooageeehallbaa.QRunsCut
namespace Go.Proofs.Ytooageeehallbaa.QRunsCut
open Go.RowKit Go.Proofs.YtooageeehallbaaW.PrintWords Go.Proofs.YtooageeehallbaaW.PrintLast Go.Proofs.YtooageeehallbaaW.PrintMore
attribute [local go_sem] max2_int min2_int max_two min_two max_three min_three max_four min_four 
set_option linter.unusedVariables false
set_option linter.unusedSimpArgs false
/-! ### repriseref7_Up: function 27 -/
mutual
def repriseref7_Up.j0 : Nat → List (S35) → Int → Int → Int → Int → List (S35) → Bool → Option ((List (S35)))
|0,_,_,_,_,_,_,_=>none
|k + 1,x0,x1,x2,x3,x4,x11,x40=>if x40 = true then (some x11) else (repriseref7_Up.l0 k x0 x1 x3 (mn (mx x4 0) 1000) x11 x2)
def repriseref7_Up.l0 : Nat → List (S35) → Int → Int → Int → List (S35) → Int → Option ((List (S35)))
|0,_,_,_,_,_,_=>none
|k + 1,x0,x1,x3,x4,x11,x14=>if x14 ≤ x3 then (repriseref7_Up.l1 k x0 x1 x3 x4 x11 x14 0) else (some x11)
def repriseref7_Up.l1 : Nat → List (S35) → Int → Int → Int → List (S35) → Int → Int → Option ((List (S35)))
|0,_,_,_,_,_,_,_=>none
|k + 1,x0,x1,x3,x4,x11,x14,x15=>if x15 < x1 then ((repriseref7_blank.f).bind fun bt347=>(if (wrap64 (x14 + x4)) ≤ x3 then (if 0 ≤ (wrap64 ((wrap64 ((wrap64 (x14 + x4)) * x1)) + x15)) then (if (wrap64 ((wrap64 ((wrap64 (x14 + x4)) * x1)) + x15)) < (x0.length : Int) then (if 0 ≤ (wrap64 ((wrap64 (x14 * x1)) + x15)) then (if (wrap64 ((wrap64 (x14 * x1)) + x15)) < (x11.length : Int) then (repriseref7_Up.l1 k x0 x1 x3 x4 (x11.set ((wrap64 ((wrap64 (x14 * x1)) + x15)) : Int).toNat (⟨(rd_T35 x0 (wrap64 ((wrap64 ((wrap64 (x14 + x4)) * x1)) + x15))).f0,(rd_T35 x0 (wrap64 ((wrap64 ((wrap64 (x14 + x4)) * x1)) + x15))).f1,(rd_T35 x0 (wrap64 ((wrap64 ((wrap64 (x14 + x4)) * x1)) + x15))).f2⟩ : S35)) x14 (wrap64 (x15 + 1))) else (none)) else (none)) else (none)) else (none)) else (if 0 ≤ (wrap64 ((wrap64 (x14 * x1)) + x15)) then (if (wrap64 ((wrap64 (x14 * x1)) + x15)) < (x11.length : Int) then (repriseref7_Up.l1 k x0 x1 x3 x4 (x11.set ((wrap64 ((wrap64 (x14 * x1)) + x15)) : Int).toNat (⟨bt347.1,bt347.2.1,bt347.2.2⟩ : S35)) x14 (wrap64 (x15 + 1))) else (none)) else (none)))) else (repriseref7_Up.l0 k x0 x1 x3 x4 x11 (wrap64 (x14 + 1)))
end
def repriseref7_Up.f (k : Nat) (l0 : List (S35)) (a1 : Int) (a2 : Int) (a3 : Int) (a4 : Int) : Option ((List (S35))):=(repriseref7_own.f l0).bind fun t342=>((repriseref7_grid.f l0 a1).bind fun bt345=>(if bt345.2 = true then (if a2 < 0 then (repriseref7_Up.j0 k l0 a1 a2 a3 a4 t342 true) else (if a3 ≥ bt345.1 then (repriseref7_Up.j0 k l0 a1 a2 a3 a4 t342 true) else (repriseref7_Up.j0 k l0 a1 a2 a3 a4 t342 (decide (a2 > a3))))) else (repriseref7_Up.j0 k l0 a1 a2 a3 a4 t342 true)))
theorem repriseref7_Up.mono_l : ∀ k,(∀ y0 y1 y2 y3 y4 y5 y6,LeO (repriseref7_Up.j0 k y0 y1 y2 y3 y4 y5 y6) (repriseref7_Up.j0 (k + 1) y0 y1 y2 y3 y4 y5 y6))∧(∀ y0 y1 y2 y3 y4 y5,LeO (repriseref7_Up.l0 k y0 y1 y2 y3 y4 y5) (repriseref7_Up.l0 (k + 1) y0 y1 y2 y3 y4 y5))∧(∀ y0 y1 y2 y3 y4 y5 y6,LeO (repriseref7_Up.l1 k y0 y1 y2 y3 y4 y5 y6) (repriseref7_Up.l1 (k + 1) y0 y1 y2 y3 y4 y5 y6))
|0=>⟨fun _ _ _ _ _ _ _ r h=>by simp [repriseref7_Up.j0] at h,fun _ _ _ _ _ _ r h=>by simp [repriseref7_Up.l0] at h,fun _ _ _ _ _ _ _ r h=>by simp [repriseref7_Up.l1] at h⟩
|k + 1=>by
  obtain ⟨ih0,ih1,ih2⟩:=repriseref7_Up.mono_l k;refine ⟨?_,?_,?_⟩
  ·intro y0 y1 y2 y3 y4 y5 y6;unfold repriseref7_Up.j0;repeat' first
  |(with_reducible exact ih0 _ _ _ _ _ _ _)
  |(with_reducible exact ih1 _ _ _ _ _ _)
  |(with_reducible exact ih2 _ _ _ _ _ _ _)
  |(with_reducible exact LeO.refl _)
  |(with_reducible exact LeO.none _)
  |(with_reducible refine LeO.ite ?_ ?_)
  |(with_reducible refine LeO.bind ?_ (fun _=>?_))
  |exact ih0 _ _ _ _ _ _ _
  |exact ih1 _ _ _ _ _ _
  |exact ih2 _ _ _ _ _ _ _
  |exact LeO.none _
  |refine LeO.ite ?_ ?_
  |refine LeO.bind ?_ (fun _=>?_)
  ·intro y0 y1 y2 y3 y4 y5;unfold repriseref7_Up.l0;repeat' first
  |(with_reducible exact ih0 _ _ _ _ _ _ _)
  |(with_reducible exact ih1 _ _ _ _ _ _)
  |(with_reducible exact ih2 _ _ _ _ _ _ _)
  |(with_reducible exact LeO.refl _)
  |(with_reducible exact LeO.none _)
  |(with_reducible refine LeO.ite ?_ ?_)
  |(with_reducible refine LeO.bind ?_ (fun _=>?_))
  |exact ih0 _ _ _ _ _ _ _
  |exact ih1 _ _ _ _ _ _
  |exact ih2 _ _ _ _ _ _ _
  |exact LeO.none _
  |refine LeO.ite ?_ ?_
  |refine LeO.bind ?_ (fun _=>?_)
  ·intro y0 y1 y2 y3 y4 y5 y6;unfold repriseref7_Up.l1;repeat' first
  |(with_reducible exact ih0 _ _ _ _ _ _ _)
  |(with_reducible exact ih1 _ _ _ _ _ _)
  |(with_reducible exact ih2 _ _ _ _ _ _ _)
  |(with_reducible exact LeO.refl _)
  |(with_reducible exact LeO.none _)
  |(with_reducible refine LeO.ite ?_ ?_)
  |(with_reducible refine LeO.bind ?_ (fun _=>?_))
  |exact ih0 _ _ _ _ _ _ _
  |exact ih1 _ _ _ _ _ _
  |exact ih2 _ _ _ _ _ _ _
  |exact LeO.none _
  |refine LeO.ite ?_ ?_
  |refine LeO.bind ?_ (fun _=>?_)
theorem repriseref7_Up.mono : ∀ a0 a1 a2 a3 a4 k,LeO (repriseref7_Up.f k a0 a1 a2 a3 a4) (repriseref7_Up.f (k + 1) a0 a1 a2 a3 a4):=by
 intro a0 a1 a2 a3 a4 k;obtain ⟨ih0,ih1,ih2⟩:=repriseref7_Up.mono_l k;unfold repriseref7_Up.f;repeat' first
 |(with_reducible exact ih0 _ _ _ _ _ _ _)
 |(with_reducible exact ih1 _ _ _ _ _ _)
 |(with_reducible exact ih2 _ _ _ _ _ _ _)
 |(with_reducible exact LeO.refl _)
 |(with_reducible exact LeO.none _)
 |(with_reducible refine LeO.ite ?_ ?_)
 |(with_reducible refine LeO.bind ?_ (fun _=>?_))
 |exact ih0 _ _ _ _ _ _ _
 |exact ih1 _ _ _ _ _ _
 |exact ih2 _ _ _ _ _ _ _
 |exact LeO.none _
 |refine LeO.ite ?_ ?_
 |refine LeO.bind ?_ (fun _=>?_)
set_option maxHeartbeats 8000000 in
set_option maxRecDepth 100000 in
theorem repriseref7_Up.calls (k : Nat) (A0 : Option Addr) (c0 : Nat) (l0 : List (S35)) (a1 : Int) (a2 : Int) (a3 : Int) (a4 : Int) (r : List (S35)) (w : World) (hr0 : Kd.C k35 w A0 l0.length l0) (hc0 : l0.length ≤ c0) (h : repriseref7_Up.f k l0 a1 a2 a3 a4 = some r) :
 Calls Try.prog 27 #[.slice A0 l0.length c0,.int .i64 a1,.int .i64 a2,.int .i64 a3,.int .i64 a4] w fun e w'=>∃ v0_ : Value,e = .returned (v0_)∧Kd.R k35 35 w' w.heap.size (fun _=>True) v0_ r∧Below w.heap.size w w':=by
 have hu35:=Try.underlying35;have HR0:=zA hr0;have HC0:=zA hc0;clear hr0 hc0;have HB:=zA (zE w.heap.size w);have H : ((repriseref7_own.f l0).bind fun t342=>((repriseref7_grid.f l0 a1).bind fun bt345=>(if bt345.2 = true then (if a2 < 0 then (repriseref7_Up.j0 k l0 a1 a2 a3 a4 t342 true) else (if a3 ≥ bt345.1 then (repriseref7_Up.j0 k l0 a1 a2 a3 a4 t342 true) else (repriseref7_Up.j0 k l0 a1 a2 a3 a4 t342 (decide (a2 > a3))))) else (repriseref7_Up.j0 k l0 a1 a2 a3 a4 t342 true)))) = some r:=h;clear h;replace H:=Option.bind_eq_some_iff.mp H;obtain ⟨t342,A60,H⟩:=H;replace H : ((repriseref7_grid.f l0 a1).bind fun bt345=>(if bt345.2 = true then (if a2 < 0 then (repriseref7_Up.j0 k l0 a1 a2 a3 a4 t342 true) else (if a3 ≥ bt345.1 then (repriseref7_Up.j0 k l0 a1 a2 a3 a4 t342 true) else (repriseref7_Up.j0 k l0 a1 a2 a3 a4 t342 (decide (a2 > a3))))) else (repriseref7_Up.j0 k l0 a1 a2 a3 a4 t342 true))) = some r:=H;have A6:=zA A60;clear A60;replace H:=Option.bind_eq_some_iff.mp H;obtain ⟨⟨t345,t346⟩,A70,H⟩:=H;replace H : (if t346 = true then (if a2 < 0 then (repriseref7_Up.j0 k l0 a1 a2 a3 a4 t342 true) else (if a3 ≥ t345 then (repriseref7_Up.j0 k l0 a1 a2 a3 a4 t342 true) else (repriseref7_Up.j0 k l0 a1 a2 a3 a4 t342 (decide (a2 > a3))))) else (repriseref7_Up.j0 k l0 a1 a2 a3 a4 t342 true)) = some r:=H;have A7:=zA A70;clear A70;have HC8:=zA H;clear H;go_enter Try.func27,Try.ntmps27
 go_upto_region 3 with (first|((with_reducible refine zI (f:=51) rfl ?_);refine goesL_ (some 18) rfl rfl Try.func51 (by kernel_rfl) rfl #[.slice A0 l0.length c0] rfl (by (try simp only [zS,zT,zU]);rfl) ?_;(with_reducible refine (repriseref7_own.calls _ _ l0 t342 _ ?side1 ?side2 A6.out).mono ?_);(case side1=>exact HR0.out);(case side2=>exact HC0.out);rintro e w9 ⟨v343,rfl,ho0,hb⟩;refine ⟨_,rfl,?_⟩;have n0_:=zA (Kd.R_lower ho0 (below_size HB.out));have n1_:=zA (below_step HB.out hb);clear HB;have HO344:=n0_;have HB:=n1_;clear n0_ n1_;(try clear hb);(try clear ho0))|((with_reducible refine zI (f:=52) rfl ?_);refine goesL_ (some 22) rfl rfl Try.func52 (by kernel_rfl) rfl #[.slice A0 l0.length c0,.int .i64 a1] rfl (by (try simp only [zS,zT,zU]);rfl) ?_;(with_reducible refine (repriseref7_grid.calls _ _ l0 a1 t345 t346 _ ?side1 ?side2 A7.out).mono ?_);(case side1=>exact (Kd.C_below HR0.out HB.out));(case side2=>exact HC0.out);rintro e w' ⟨rfl,⟨nd,rfl⟩⟩;refine ⟨_,rfl,?_⟩))
 go_cut [40] (fun v40 wc=>∃ (kq : Nat) (x40_7 : Bool),v40 = .bool x40_7∧Aside0 (repriseref7_Up.j0 kq l0 a1 a2 a3 a4 t342 x40_7 = some r)∧Aside0 (kq ≤ k)∧Aside0 (Kd.R k35 35 wc w.heap.size (fun _=>True) v343 t342)∧Aside0 (Below w.heap.size w wc))
 case first =>
  have H:=HC8.out;clear HC8;by_cases c10 : t346 = true
  ·subst c10;have H1 : (if a2 < 0 then (repriseref7_Up.j0 k l0 a1 a2 a3 a4 t342 true) else (if a3 ≥ t345 then (repriseref7_Up.j0 k l0 a1 a2 a3 a4 t342 true) else (repriseref7_Up.j0 k l0 a1 a2 a3 a4 t342 (decide (a2 > a3))))) = some r:=by rw [if_pos rfl] at H;exact H
   clear H;have H:=H1;clear H1;by_cases c11 : a2 < 0
   ·rw [if_pos c11] at H;have c11b0 : decide (a2 < 0) = true:=zC c11;clear c11;have H':=zA H;clear H;go_wp2;go_meet
    case rel=>exact ⟨_,(true),(by rfl),H',⟨by omega⟩,⟨by (with_reducible repeat (apply Kd.R_drewN));exact HO344.out⟩,⟨by repeat ((with_reducible first|exact HB.out|apply pw_below_drewN))⟩⟩
   ·rw [if_neg c11] at H;have c11b0 : decide (a2 < 0) = false:=zD c11;clear c11;by_cases c12 : a3 ≥ t345
    ·rw [if_pos c12] at H;have c12b0 : decide (t345 ≤ a3) = true:=zC c12;clear c12;have H':=zA H;clear H;go_wp2;go_meet
     case rel=>exact ⟨_,(true),(by rfl),H',⟨by omega⟩,⟨by (with_reducible repeat (apply Kd.R_drewN));exact HO344.out⟩,⟨by repeat ((with_reducible first|exact HB.out|apply pw_below_drewN))⟩⟩
    ·rw [if_neg c12] at H;have c12b0 : decide (t345 ≤ a3) = false:=zD c12;clear c12;have H':=zA H;clear H;go_wp2;go_meet
     case rel=>exact ⟨_,(decide (a2 > a3)),(by rfl),H',⟨by omega⟩,⟨by (with_reducible repeat (apply Kd.R_drewN));exact HO344.out⟩,⟨by repeat ((with_reducible first|exact HB.out|apply pw_below_drewN))⟩⟩
  ·replace c10:=Bool.eq_false_iff.mpr c10;subst c10;have H1 : (repriseref7_Up.j0 k l0 a1 a2 a3 a4 t342 true) = some r:=by rw [if_neg (show ¬ (false = true) by decide)] at H;exact H
   clear H;have H:=H1;clear H1;have H':=zA H;clear H;go_wp2;go_meet
   case rel=>exact ⟨_,(true),(by rfl),H',⟨by omega⟩,⟨by (with_reducible repeat (apply Kd.R_drewN));exact HO344.out⟩,⟨by repeat ((with_reducible first|exact HB.out|apply pw_below_drewN))⟩⟩
 case rest =>
  clear HC8;(try clear c1);(try clear c2);(try clear p2);(try clear c5);(try clear c10);(try clear c11);(try clear c11b0);(try clear c12);(try clear c12b0);obtain ⟨kq,x40_7,rfl,HA,HJ7,HO_11,HB⟩:=hcut;cases kq with
 |zero=>exact absurd HA.out (by simp [repriseref7_Up.j0])
 |succ kj7 =>
   have H:=HA.out;clear HA;simp only [repriseref7_Up.j0] at H;by_cases c13 : x40_7 = true
   ·subst c13;have H1 : (some t342) = some r:=by rw [if_pos rfl] at H;exact H
    clear H;have H:=H1;clear H1;obtain rfl:=zY H;go_wp2;go_ret;exact ⟨_,by rfl,HO_11.out,HB.out⟩
   ·replace c13:=Bool.eq_false_iff.mpr c13;subst c13;have H1 : (repriseref7_Up.l0 kj7 l0 a1 a3 (mn (mx a4 0) 1000) t342 a2) = some r:=by rw [if_neg (show ¬ (false = true) by decide)] at H;exact H
    clear H;have H:=H1;clear H1;obtain ⟨ji14,hji14⟩ : ∃ j_ : Int,(mx a4 0) = j_:=⟨_,rfl⟩;replace H : (repriseref7_Up.l0 kj7 l0 a1 a3 (mn (ji14) 1000) t342 a2) = some r:=by (rw [hji14] at H;exact H)
    have hji14_ : (if a4 < 0 then 0 else a4) = ji14:=hji14;obtain ⟨ji15,hji15⟩ : ∃ j_ : Int,(mn (ji14) 1000) = j_:=⟨_,rfl⟩;replace H : (repriseref7_Up.l0 kj7 l0 a1 a3 ji15 t342 a2) = some r:=by (rw [hji15] at H;exact H)
    have hji15_ : (if 1000 < (ji14) then 1000 else (ji14)) = ji15:=hji15;have H':=zA H;clear H;go_wp2;go_loopg [14] kj7 (fun kq v14 w'=>∃ (x11_2 : List (S35)) (x14_2 : Int),v14 = .int .i64 x14_2∧Aside0 (repriseref7_Up.l0 kq l0 a1 a3 ji15 x11_2 x14_2 = some r)∧Aside0 (kq ≤ kj7)∧Aside0 (Kd.R k35 35 w' w.heap.size (fun _=>True) v343 x11_2)∧Aside0 (Below w.heap.size w w'))
    case atStart=>exact ⟨(t342),(a2),(by rfl),H',⟨Nat.le_refl _⟩,⟨HO_11.out⟩,⟨HB.out⟩⟩
    case round =>
     clear H';(try clear c1);(try clear c2);(try clear p2);(try clear c5);(try clear c10);(try clear c11);(try clear c11b0);(try clear c12);(try clear c12b0);(try clear c13);(try clear p2);obtain ⟨x11_2,x14_2,rfl,HA,HK2,HO_11,HB⟩:=hrel;cases gk with
    |zero=>exact absurd HA.out (by simp [repriseref7_Up.l0])
    |succ k2 =>
      have H:=HA.out;clear HA;simp only [repriseref7_Up.l0] at H;by_cases c16 : x14_2 ≤ a3
      ·rw [if_pos c16] at H;have c16b0 : decide (x14_2 ≤ a3) = true:=zC c16;clear c16;have H':=zA H;clear H;go_wp2;go_loopg [15] k2 (fun kq v15 w'=>∃ (x11_3 : List (S35)) (x15_3 : Int),v15 = .int .i64 x15_3∧Aside0 (repriseref7_Up.l1 kq l0 a1 a3 ji15 x11_3 x14_2 x15_3 = some r)∧Aside0 (kq ≤ k2)∧Aside0 (Kd.R k35 35 w' w.heap.size (fun _=>True) v343 x11_3)∧Aside0 (Below w.heap.size w w'))
       case atStart=>exact ⟨(x11_2),(0),(by rfl),H',⟨Nat.le_refl _⟩,⟨HO_11.out⟩,⟨HB.out⟩⟩
       case round =>
        clear H';(try clear c1);(try clear c2);(try clear p2);(try clear c5);(try clear c10);(try clear c11);(try clear c11b0);(try clear c12);(try clear c12b0);(try clear c13);(try clear c16);(try clear c16b0);(try clear p2);obtain ⟨x11_3,x15_3,rfl,HA,HK3,HO_11,HB⟩:=hrel;cases gk with
       |zero=>exact absurd HA.out (by simp [repriseref7_Up.l1])
       |succ k3 =>
         have H:=HA.out;clear HA;simp only [repriseref7_Up.l1] at H;by_cases c17 : x15_3 < a1
         ·rw [if_pos c17] at H;have c17b0 : decide (x15_3 < a1) = true:=zC c17;clear c17;replace H:=Option.bind_eq_some_iff.mp H;obtain ⟨⟨t347,t348,t349⟩,A180,H⟩:=H;replace H : (if (wrap64 (x14_2 + ji15)) ≤ a3 then (if 0 ≤ (wrap64 ((wrap64 ((wrap64 (x14_2 + ji15)) * a1)) + x15_3)) then (if (wrap64 ((wrap64 ((wrap64 (x14_2 + ji15)) * a1)) + x15_3)) < (l0.length : Int) then (if 0 ≤ (wrap64 ((wrap64 (x14_2 * a1)) + x15_3)) then (if (wrap64 ((wrap64 (x14_2 * a1)) + x15_3)) < (x11_3.length : Int) then (repriseref7_Up.l1 k3 l0 a1 a3 ji15 (x11_3.set ((wrap64 ((wrap64 (x14_2 * a1)) + x15_3)) : Int).toNat (⟨(rd_T35 l0 (wrap64 ((wrap64 ((wrap64 (x14_2 + ji15)) * a1)) + x15_3))).f0,(rd_T35 l0 (wrap64 ((wrap64 ((wrap64 (x14_2 + ji15)) * a1)) + x15_3))).f1,(rd_T35 l0 (wrap64 ((wrap64 ((wrap64 (x14_2 + ji15)) * a1)) + x15_3))).f2⟩ : S35)) x14_2 (wrap64 (x15_3 + 1))) else (none)) else (none)) else (none)) else (none)) else (if 0 ≤ (wrap64 ((wrap64 (x14_2 * a1)) + x15_3)) then (if (wrap64 ((wrap64 (x14_2 * a1)) + x15_3)) < (x11_3.length : Int) then (repriseref7_Up.l1 k3 l0 a1 a3 ji15 (x11_3.set ((wrap64 ((wrap64 (x14_2 * a1)) + x15_3)) : Int).toNat (⟨t347,t348,t349⟩ : S35)) x14_2 (wrap64 (x15_3 + 1))) else (none)) else (none))) = some r:=H;have A18:=zA A180;clear A180;by_cases c19 : (wrap64 (x14_2 + ji15)) ≤ a3
          ·rw [if_pos c19] at H;have c19b0 : decide ((wrap64 (x14_2 + ji15)) ≤ a3) = true:=zC c19;clear c19;obtain ⟨ji20,hji20⟩ : ∃ j_ : Int,(wrap64 ((wrap64 ((wrap64 (x14_2 + ji15)) * a1)) + x15_3)) = j_:=⟨_,rfl⟩;replace H : (if 0 ≤ (ji20) then (if (ji20) < (l0.length : Int) then (if 0 ≤ (wrap64 ((wrap64 (x14_2 * a1)) + x15_3)) then (if (wrap64 ((wrap64 (x14_2 * a1)) + x15_3)) < (x11_3.length : Int) then (repriseref7_Up.l1 k3 l0 a1 a3 ji15 (x11_3.set ((wrap64 ((wrap64 (x14_2 * a1)) + x15_3)) : Int).toNat (⟨(rd_T35 l0 (ji20)).f0,(rd_T35 l0 (ji20)).f1,(rd_T35 l0 (ji20)).f2⟩ : S35)) x14_2 (wrap64 (x15_3 + 1))) else (none)) else (none)) else (none)) else (none)) = some r:=by (rw [hji20] at H;exact H)
           have hji20w : (IntKind.i64.wrap ((wrap64 ((wrap64 (x14_2 + ji15)) * a1)) + x15_3)) = ji20:=(i64_w _).trans hji20;by_cases c21 : 0 ≤ (ji20)
           ·rw [if_pos c21] at H;have c21b0 : decide (0 ≤ (ji20)) = true:=zC c21;clear c21;by_cases c22 : (ji20) < (l0.length : Int)
            ·rw [if_pos c22] at H;have c22b0 : decide ((ji20) < (l0.length : Int)) = true:=zC c22;clear c22;obtain ⟨ji23,hji23⟩ : ∃ j_ : Int,(wrap64 ((wrap64 (x14_2 * a1)) + x15_3)) = j_:=⟨_,rfl⟩;replace H : (if 0 ≤ (ji23) then (if (ji23) < (x11_3.length : Int) then (repriseref7_Up.l1 k3 l0 a1 a3 ji15 (x11_3.set ((ji23) : Int).toNat (⟨(rd_T35 l0 (ji20)).f0,(rd_T35 l0 (ji20)).f1,(rd_T35 l0 (ji20)).f2⟩ : S35)) x14_2 (wrap64 (x15_3 + 1))) else (none)) else (none)) = some r:=by (rw [hji23] at H;exact H)
             have hji23w : (IntKind.i64.wrap ((wrap64 (x14_2 * a1)) + x15_3)) = ji23:=(i64_w _).trans hji23;by_cases c24 : 0 ≤ (ji23)
             ·rw [if_pos c24] at H;have c24b0 : decide (0 ≤ (ji23)) = true:=zC c24;clear c24;by_cases c25 : (ji23) < (x11_3.length : Int)
              ·rw [if_pos c25] at H;have c25b0 : decide ((ji23) < (x11_3.length : Int)) = true:=zC c25;clear c25;obtain ⟨y352,hy352⟩ : ∃ y_ : List (S35),y_ = (x11_3.set ((ji23) : Int).toNat (⟨(rd_T35 l0 (ji20)).f0,(rd_T35 l0 (ji20)).f1,(rd_T35 l0 (ji20)).f2⟩ : S35)):=⟨_,rfl⟩;replace H : (repriseref7_Up.l1 k3 l0 a1 a3 ji15 y352 x14_2 (wrap64 (x15_3 + 1))) = some r:=by (rw [hy352];with_reducible exact H)
               have Ny352:=zA hy352;clear hy352;have H':=zA H;clear H;go_wp2_with (first|((with_reducible refine zI (f:=53) rfl ?_);refine goesL_ (some 56) rfl rfl Try.func53 (by kernel_rfl) rfl #[] rfl (by (try simp only [zS,zT,zU]);done) ?_;(with_reducible refine (repriseref7_blank.calls  t347 t348 t349 _ A18.out).mono ?_);rintro e w27 ⟨rfl,hb⟩;refine ⟨_,rfl,?_⟩;have n0_:=zA (Kd.R_below HO_11.out hb);have n1_:=zA (below_step HB.out hb);clear HO_11;clear HB;have HO_11:=n0_;have HB:=n1_;clear n0_ n1_;(try clear hb))|((with_reducible refine zG (N:=16) rfl ?_);refine box_event ?hg (N:=16) ?hd (cs:=#[.int .i32 0,.int .u16 0,.int .u8 0]) (t:=35) ?hr ?_;(case hd=>rfl);(case hg=>rfl);(case hr=>(go_simp;done));intro gb350 hg w28 hbox hb;have n0_:=zA (Kd.R_below (Kd.R_elderB HO_11.out gb350 (Nat.le_of_eq hg.symm)) hb);have n1_:=zA (below_step HB.out hb);have n2_:=zA (hbox);have n3_:=zA ((by rw [hg];exact (below_size HB.out) : w.heap.size ≤ gb350));have n4_:=zA ((by rw [hg];exact (below_size HB.out) : w.heap.size ≤ gb350));clear HO_11;clear HB;have HO_11:=n0_;have HB:=n1_;have BK350:=n2_;have GW350:=n3_;have GE350:=n4_;clear n0_ n1_ n2_ n3_ n4_;clear hb hbox hg;have hcz29_0 : w28.cell? ⟨gb350,0,none⟩ = some (.int .i32 0):=(blk_cell BK350.out 0).trans rfl;have hcz29_1 : w28.cell? ⟨gb350,1,none⟩ = some (.int .u16 0):=(blk_cell BK350.out 1).trans rfl;have hcz29_2 : w28.cell? ⟨gb350,2,none⟩ = some (.int .u8 0):=(blk_cell BK350.out 2).trans rfl;have hfz29_0:=blk_frozen BK350.out 0;have hfz29_1:=blk_frozen BK350.out 1;have hfz29_2:=blk_frozen BK350.out 2)|((with_reducible refine zH (t:=35) (p:=16) rfl ?_);refine store_event (t:=35) (p:=16) (v:=?vo_w30) (w1:=(((w28.setCell ⟨gb350,0,none⟩ (.int .i32 t347)).setCell ⟨gb350,1,none⟩ (.int .u16 t348)).setCell ⟨gb350,2,none⟩ (.int .u8 t349))) ?hg ?ho ?hn ?hr ?_;(case ho=>rfl);(case hg=>rfl);(case hn=>rfl);(case hr=>(go_simp;done));intro w30 hw;have n0_ : Aside0 (Kd.R k35 35 w30 w.heap.size (fun k_=>k_ ≠ gb350) v343 x11_3):=⟨(by rw [hw];exact (by exact Kd.R_mono (Kd.R_far (p:=⟨gb350,2,none⟩) (Kd.R_far (p:=⟨gb350,1,none⟩) (Kd.R_far (p:=⟨gb350,0,none⟩) (Kd.R_mono HO_11.out (fun k_ hk=>(⟨hk,hk.2⟩ : _∧k_ ≠ gb350))) (fun _ hk=>hk.2) (.int .i32 t347)) (fun _ hk=>hk.2) (.int .u16 t348)) (fun _ hk=>hk.2) (.int .u8 t349)) (fun _ hk=>hk.1.2)))⟩;have n1_ : Aside0 (w30.heap[gb350]? = some (.cells #[.int .i32 t347,.int .u16 t348,.int .u8 t349] 35 (0,0))):=⟨(by rw [hw];exact (by refine blk_put (cs:=#[.int .i32 t347,.int .u16 t348,.int .u8 0]) ?_ 2 _ rfl;refine blk_put (cs:=#[.int .i32 t347,.int .u16 0,.int .u8 0]) ?_ 1 _ rfl;refine blk_put (cs:=#[.int .i32 0,.int .u16 0,.int .u8 0]) ?_ 0 _ rfl;exact BK350.out))⟩;have n2_ : Aside0 (Below w.heap.size w w30):=⟨(by rw [hw];exact (by repeat ((with_reducible first|exact HB.out|refine below_set ?_ GE350.out))))⟩;clear hw;clear HO_11;clear BK350;clear HB;have HO_11:=n0_;have BK350:=n1_;have HB:=n2_;clear n0_ n1_ n2_;have p351 : 0 ≤ ((ji20) : Int):=od;have q351 : (ji20) < (l0.length : Int):=od;obtain ⟨ad351,e351,hx351_0,hx351_1,hx351_2⟩:=at_T35 HR0.out (ji20) p351 q351;cases e351;replace hx351_0:=cx HB hx351_0;replace hx351_1:=cx HB hx351_1;replace hx351_2:=cx HB hx351_2;replace p351:=eq_true p351;replace q351:=eq_true q351;have hcz31_0 : w30.cell? ⟨gb350,0,none⟩ = some (.int .i32 t347):=(blk_cell BK350.out 0).trans rfl;have hcz31_1 : w30.cell? ⟨gb350,1,none⟩ = some (.int .u16 t348):=(blk_cell BK350.out 1).trans rfl;have hcz31_2 : w30.cell? ⟨gb350,2,none⟩ = some (.int .u8 t349):=(blk_cell BK350.out 2).trans rfl;have hfz31_0:=blk_frozen BK350.out 0;have hfz31_1:=blk_frozen BK350.out 1;have hfz31_2:=blk_frozen BK350.out 2)|((with_reducible refine zH (t:=35) (p:=16) rfl ?_);refine store_event (t:=35) (p:=16) (v:=?vo_w32) (w1:=(((w30.setCell ⟨gb350,0,none⟩ (.int .i32 ((rd_T35 l0 (ji20)).f0))).setCell ⟨gb350,1,none⟩ (.int .u16 ((rd_T35 l0 (ji20)).f1))).setCell ⟨gb350,2,none⟩ (.int .u8 ((rd_T35 l0 (ji20)).f2)))) ?hg ?ho ?hn ?hr ?_;(case ho=>rfl);(case hg=>rfl);(case hn=>rfl);(case hr=>(go_simp;done));intro w32 hw;have n0_ : Aside0 (Kd.R k35 35 w32 w.heap.size (fun k_=>k_ ≠ gb350) v343 x11_3):=⟨(by rw [hw];exact (by exact Kd.R_mono (Kd.R_far (p:=⟨gb350,2,none⟩) (Kd.R_far (p:=⟨gb350,1,none⟩) (Kd.R_far (p:=⟨gb350,0,none⟩) (Kd.R_mono HO_11.out (fun k_ hk=>(⟨hk,hk⟩ : _∧k_ ≠ gb350))) (fun _ hk=>hk.2) (.int .i32 ((rd_T35 l0 (ji20)).f0))) (fun _ hk=>hk.2) (.int .u16 ((rd_T35 l0 (ji20)).f1))) (fun _ hk=>hk.2) (.int .u8 ((rd_T35 l0 (ji20)).f2))) (fun _ hk=>hk.1)))⟩;have n1_ : Aside0 (w32.heap[gb350]? = some (.cells #[.int .i32 ((rd_T35 l0 (ji20)).f0),.int .u16 ((rd_T35 l0 (ji20)).f1),.int .u8 ((rd_T35 l0 (ji20)).f2)] 35 (0,0))):=⟨(by rw [hw];exact (by refine blk_put (cs:=#[.int .i32 ((rd_T35 l0 (ji20)).f0),.int .u16 ((rd_T35 l0 (ji20)).f1),.int .u8 t349]) ?_ 2 _ rfl;refine blk_put (cs:=#[.int .i32 ((rd_T35 l0 (ji20)).f0),.int .u16 t348,.int .u8 t349]) ?_ 1 _ rfl;refine blk_put (cs:=#[.int .i32 t347,.int .u16 t348,.int .u8 t349]) ?_ 0 _ rfl;exact BK350.out))⟩;have n2_ : Aside0 (Below w.heap.size w w32):=⟨(by rw [hw];exact (by repeat ((with_reducible first|exact HB.out|refine below_set ?_ GE350.out))))⟩;clear hw;clear HO_11;clear BK350;clear HB;have HO_11:=n0_;have BK350:=n1_;have HB:=n2_;clear n0_ n1_ n2_;have hcz33_0 : w32.cell? ⟨gb350,0,none⟩ = some (.int .i32 ((rd_T35 l0 (ji20)).f0)):=(blk_cell BK350.out 0).trans rfl;have hcz33_1 : w32.cell? ⟨gb350,1,none⟩ = some (.int .u16 ((rd_T35 l0 (ji20)).f1)):=(blk_cell BK350.out 1).trans rfl;have hcz33_2 : w32.cell? ⟨gb350,2,none⟩ = some (.int .u8 ((rd_T35 l0 (ji20)).f2)):=(blk_cell BK350.out 2).trans rfl;have hfz33_0:=blk_frozen BK350.out 0;have hfz33_1:=blk_frozen BK350.out 1;have hfz33_2:=blk_frozen BK350.out 2;have p26 : 0 ≤ ((ji23) : Int):=od;have q26 : ((ji23) : Int) < ((x11_3.length : Int) : Int):=od;obtain ⟨go26,co26,eo26,gb26,gl26,cl26,HG26⟩:=Kd.R_form HO_11.out (by omega);(cases eo26);have GB26:=zA gb26;have GG26:=zA HG26;clear gb26 gl26 HG26;obtain ⟨ce26,hcl26,hM26,hcc26,hfr26⟩:=Kd.R_elem HO_11.out z35 ((ji23) : Int) p26 q26;obtain rfl:=k35_openM hM26;have hx26_0 : w32.cell? ⟨go26,((ji23) : Int).toNat * 3,none⟩ = some (.int .i32 ((rd_T35 x11_3 (ji23)).f0)):=hcc26 0 _ rfl;have hx26_1 : w32.cell? ⟨go26,((ji23) : Int).toNat * 3 + 1,none⟩ = some (.int .u16 ((rd_T35 x11_3 (ji23)).f1)):=hcc26 1 _ rfl;have hx26_2 : w32.cell? ⟨go26,((ji23) : Int).toNat * 3 + 2,none⟩ = some (.int .u8 ((rd_T35 x11_3 (ji23)).f2)):=hcc26 2 _ rfl;have hf26_0 : w32.frozen? ⟨go26,((ji23) : Int).toNat * 3,none⟩ = false:=hfr26 0;have hf26_1 : w32.frozen? ⟨go26,((ji23) : Int).toNat * 3 + 1,none⟩ = false:=hfr26 1;have hf26_2 : w32.frozen? ⟨go26,((ji23) : Int).toNat * 3 + 2,none⟩ = false:=hfr26 2;clear hcl26 hcc26 hfr26 hM26;replace p26:=eq_true p26;replace q26:=eq_true q26;have HX34:=zA (show Kd.R k35 35 w32 w.heap.size (fun k_=>k_ ≠ gb350) (.slice (some ⟨go26,0,none⟩) x11_3.length co26) x11_3 from HO_11.out);obtain ⟨ce34,hcl34,hM34,hcc34,hfr34⟩:=Kd.R_elem HX34.out z35 ((ji23) : Int) od (by have h_ : ((ji23) : Int) < ((x11_3.length : Int) : Int):=od;exact h_);obtain rfl:=k35_openM hM34;have HP34:=Kd.R_seg HX34.out ((ji23) : Int) od (by have h_ : ((ji23) : Int) < ((x11_3.length : Int) : Int):=od;exact h_) (seg:=[.int .i32 ((rd_T35 l0 (ji20)).f0),.int .u16 ((rd_T35 l0 (ji20)).f1),.int .u8 ((rd_T35 l0 (ji20)).f2)]) (j:=0) hcl34 hcc34 (show 3 ≤ 3 from by decide) (x':=(⟨(rd_T35 l0 (ji20)).f0,(rd_T35 l0 (ji20)).f1,(rd_T35 l0 (ji20)).f2⟩ : S35)) (k35_mkM _ _ _ (⟨(rd_T35 l0 (ji20)).f0,(rd_T35 l0 (ji20)).f1,(rd_T35 l0 (ji20)).f2⟩ : S35) ) (fun _ hk=>hk);have hx34_0:=hcc34 0 _ rfl;(try simp only [show (k35).sz = 3 from rfl,Nat.mul_one,Nat.add_zero] at hx34_0);have hf34_0:=hfr34 0;(try simp only [show (k35).sz = 3 from rfl,Nat.mul_one,Nat.add_zero] at hf34_0);have hx34_1:=hcc34 1 _ rfl;(try simp only [show (k35).sz = 3 from rfl,Nat.mul_one,Nat.add_zero] at hx34_1);have hf34_1:=hfr34 1;(try simp only [show (k35).sz = 3 from rfl,Nat.mul_one,Nat.add_zero] at hf34_1);have hx34_2:=hcc34 2 _ rfl;(try simp only [show (k35).sz = 3 from rfl,Nat.mul_one,Nat.add_zero] at hx34_2);have hf34_2:=hfr34 2;(try simp only [show (k35).sz = 3 from rfl,Nat.mul_one,Nat.add_zero] at hf34_2);clear hcl34 hcc34 hfr34 hM34)|((with_reducible refine zH (t:=35) (p:=79) rfl ?_);refine store_event (t:=35) (p:=79) (v:=?vo_w35) (w1:=(((w32.setCell ⟨go26,((ji23) : Int).toNat * 3,none⟩ (.int .i32 ((rd_T35 l0 (ji20)).f0))).setCell ⟨go26,((ji23) : Int).toNat * 3 + 1,none⟩ (.int .u16 ((rd_T35 l0 (ji20)).f1))).setCell ⟨go26,((ji23) : Int).toNat * 3 + 2,none⟩ (.int .u8 ((rd_T35 l0 (ji20)).f2)))) ?hg ?ho ?hn ?hr ?_;(case ho=>rfl);(case hg=>rfl);(case hn=>rfl);(case hr=>(go_simp;done));intro w35 hw;have hg : w32.grownBy w35 (some go26):=(by rw [hw];exact HP34.2);have hp_ : Kd.R k35 35 w35 w.heap.size (fun k_=>k_ ≠ gb350) (.slice (some ⟨go26,0,none⟩) x11_3.length co26) y352:=(by rw [hw,Ny352.out];exact HP34.1);clear HP34;have n0_:=zA (hp_);have n1_:=zA (blk_grown (g:=gb350) (o:=.cells #[.int .i32 ((rd_T35 l0 (ji20)).f0),.int .u16 ((rd_T35 l0 (ji20)).f1),.int .u8 ((rd_T35 l0 (ji20)).f2)] 35 (0,0)) BK350.out hg (Kd.R_away HO_11.out (fun _ hk=>hk)));have n2_:=zA ((by rw [hw];exact below_set (below_set (below_set (HB.out) GB26.out) GB26.out) GB26.out : Below w.heap.size w w35));clear HO_11;clear BK350;clear HB;have HO_11:=n0_;have BK350:=n1_;have HB:=n2_;clear n0_ n1_ n2_;clear hg hw hp_));go_roundg k3
               case measure=>have:=HJ7.out;have:=HK2.out;have:=HK3.out;omega
               case rel=>exact ⟨(y352),(wrap64 (x15_3 + 1)),(by rfl),H',⟨by have:=HJ7.out;have:=HK2.out;have:=HK3.out;omega⟩,⟨by exact Kd.R_mono HO_11.out (fun _ hk=>trivial)⟩,⟨HB.out⟩⟩
              ·rw [if_neg c25] at H;exact absurd H (by simp)
             ·rw [if_neg c24] at H;exact absurd H (by simp)
            ·rw [if_neg c22] at H;exact absurd H (by simp)
           ·rw [if_neg c21] at H;exact absurd H (by simp)
          ·rw [if_neg c19] at H;have c19b0 : decide ((wrap64 (x14_2 + ji15)) ≤ a3) = false:=zD c19;clear c19;obtain ⟨ji36,hji36⟩ : ∃ j_ : Int,(wrap64 ((wrap64 (x14_2 * a1)) + x15_3)) = j_:=⟨_,rfl⟩;replace H : (if 0 ≤ (ji36) then (if (ji36) < (x11_3.length : Int) then (repriseref7_Up.l1 k3 l0 a1 a3 ji15 (x11_3.set ((ji36) : Int).toNat (⟨t347,t348,t349⟩ : S35)) x14_2 (wrap64 (x15_3 + 1))) else (none)) else (none)) = some r:=by (rw [hji36] at H;exact H)
           have hji36w : (IntKind.i64.wrap ((wrap64 (x14_2 * a1)) + x15_3)) = ji36:=(i64_w _).trans hji36;by_cases c37 : 0 ≤ (ji36)
           ·rw [if_pos c37] at H;have c37b0 : decide (0 ≤ (ji36)) = true:=zC c37;clear c37;by_cases c38 : (ji36) < (x11_3.length : Int)
            ·rw [if_pos c38] at H;have c38b0 : decide ((ji36) < (x11_3.length : Int)) = true:=zC c38;clear c38;obtain ⟨y353,hy353⟩ : ∃ y_ : List (S35),y_ = (x11_3.set ((ji36) : Int).toNat (⟨t347,t348,t349⟩ : S35)):=⟨_,rfl⟩;replace H : (repriseref7_Up.l1 k3 l0 a1 a3 ji15 y353 x14_2 (wrap64 (x15_3 + 1))) = some r:=by (rw [hy353];with_reducible exact H)
             have Ny353:=zA hy353;clear hy353;have H':=zA H;clear H;go_wp2_with (first|((with_reducible refine zI (f:=53) rfl ?_);refine goesL_ (some 56) rfl rfl Try.func53 (by kernel_rfl) rfl #[] rfl (by (try simp only [zS,zT,zU]);done) ?_;(with_reducible refine (repriseref7_blank.calls  t347 t348 t349 _ A18.out).mono ?_);rintro e w40 ⟨rfl,hb⟩;refine ⟨_,rfl,?_⟩;have n0_:=zA (Kd.R_below HO_11.out hb);have n1_:=zA (below_step HB.out hb);clear HO_11;clear HB;have HO_11:=n0_;have HB:=n1_;clear n0_ n1_;(try clear hb))|((with_reducible refine zG (N:=16) rfl ?_);refine box_event ?hg (N:=16) ?hd (cs:=#[.int .i32 0,.int .u16 0,.int .u8 0]) (t:=35) ?hr ?_;(case hd=>rfl);(case hg=>rfl);(case hr=>(go_simp;done));intro gb350 hg w41 hbox hb;have n0_:=zA (Kd.R_below (Kd.R_elderB HO_11.out gb350 (Nat.le_of_eq hg.symm)) hb);have n1_:=zA (below_step HB.out hb);have n2_:=zA (hbox);have n3_:=zA ((by rw [hg];exact (below_size HB.out) : w.heap.size ≤ gb350));have n4_:=zA ((by rw [hg];exact (below_size HB.out) : w.heap.size ≤ gb350));clear HO_11;clear HB;have HO_11:=n0_;have HB:=n1_;have BK350:=n2_;have GW350:=n3_;have GE350:=n4_;clear n0_ n1_ n2_ n3_ n4_;clear hb hbox hg;have hcz42_0 : w41.cell? ⟨gb350,0,none⟩ = some (.int .i32 0):=(blk_cell BK350.out 0).trans rfl;have hcz42_1 : w41.cell? ⟨gb350,1,none⟩ = some (.int .u16 0):=(blk_cell BK350.out 1).trans rfl;have hcz42_2 : w41.cell? ⟨gb350,2,none⟩ = some (.int .u8 0):=(blk_cell BK350.out 2).trans rfl;have hfz42_0:=blk_frozen BK350.out 0;have hfz42_1:=blk_frozen BK350.out 1;have hfz42_2:=blk_frozen BK350.out 2)|((with_reducible refine zH (t:=35) (p:=16) rfl ?_);refine store_event (t:=35) (p:=16) (v:=?vo_w43) (w1:=(((w41.setCell ⟨gb350,0,none⟩ (.int .i32 t347)).setCell ⟨gb350,1,none⟩ (.int .u16 t348)).setCell ⟨gb350,2,none⟩ (.int .u8 t349))) ?hg ?ho ?hn ?hr ?_;(case ho=>rfl);(case hg=>rfl);(case hn=>rfl);(case hr=>(go_simp;done));intro w43 hw;have n0_ : Aside0 (Kd.R k35 35 w43 w.heap.size (fun k_=>k_ ≠ gb350) v343 x11_3):=⟨(by rw [hw];exact (by exact Kd.R_mono (Kd.R_far (p:=⟨gb350,2,none⟩) (Kd.R_far (p:=⟨gb350,1,none⟩) (Kd.R_far (p:=⟨gb350,0,none⟩) (Kd.R_mono HO_11.out (fun k_ hk=>(⟨hk,hk.2⟩ : _∧k_ ≠ gb350))) (fun _ hk=>hk.2) (.int .i32 t347)) (fun _ hk=>hk.2) (.int .u16 t348)) (fun _ hk=>hk.2) (.int .u8 t349)) (fun _ hk=>hk.1.2)))⟩;have n1_ : Aside0 (w43.heap[gb350]? = some (.cells #[.int .i32 t347,.int .u16 t348,.int .u8 t349] 35 (0,0))):=⟨(by rw [hw];exact (by refine blk_put (cs:=#[.int .i32 t347,.int .u16 t348,.int .u8 0]) ?_ 2 _ rfl;refine blk_put (cs:=#[.int .i32 t347,.int .u16 0,.int .u8 0]) ?_ 1 _ rfl;refine blk_put (cs:=#[.int .i32 0,.int .u16 0,.int .u8 0]) ?_ 0 _ rfl;exact BK350.out))⟩;have n2_ : Aside0 (Below w.heap.size w w43):=⟨(by rw [hw];exact (by repeat ((with_reducible first|exact HB.out|refine below_set ?_ GE350.out))))⟩;clear hw;clear HO_11;clear BK350;clear HB;have HO_11:=n0_;have BK350:=n1_;have HB:=n2_;clear n0_ n1_ n2_;have hcz44_0 : w43.cell? ⟨gb350,0,none⟩ = some (.int .i32 t347):=(blk_cell BK350.out 0).trans rfl;have hcz44_1 : w43.cell? ⟨gb350,1,none⟩ = some (.int .u16 t348):=(blk_cell BK350.out 1).trans rfl;have hcz44_2 : w43.cell? ⟨gb350,2,none⟩ = some (.int .u8 t349):=(blk_cell BK350.out 2).trans rfl;have hfz44_0:=blk_frozen BK350.out 0;have hfz44_1:=blk_frozen BK350.out 1;have hfz44_2:=blk_frozen BK350.out 2;have p39 : 0 ≤ ((ji36) : Int):=od;have q39 : ((ji36) : Int) < ((x11_3.length : Int) : Int):=od;obtain ⟨go39,co39,eo39,gb39,gl39,cl39,HG39⟩:=Kd.R_form HO_11.out (by omega);(cases eo39);have GB39:=zA gb39;have GG39:=zA HG39;clear gb39 gl39 HG39;obtain ⟨ce39,hcl39,hM39,hcc39,hfr39⟩:=Kd.R_elem HO_11.out z35 ((ji36) : Int) p39 q39;obtain rfl:=k35_openM hM39;have hx39_0 : w43.cell? ⟨go39,((ji36) : Int).toNat * 3,none⟩ = some (.int .i32 ((rd_T35 x11_3 (ji36)).f0)):=hcc39 0 _ rfl;have hx39_1 : w43.cell? ⟨go39,((ji36) : Int).toNat * 3 + 1,none⟩ = some (.int .u16 ((rd_T35 x11_3 (ji36)).f1)):=hcc39 1 _ rfl;have hx39_2 : w43.cell? ⟨go39,((ji36) : Int).toNat * 3 + 2,none⟩ = some (.int .u8 ((rd_T35 x11_3 (ji36)).f2)):=hcc39 2 _ rfl;have hf39_0 : w43.frozen? ⟨go39,((ji36) : Int).toNat * 3,none⟩ = false:=hfr39 0;have hf39_1 : w43.frozen? ⟨go39,((ji36) : Int).toNat * 3 + 1,none⟩ = false:=hfr39 1;have hf39_2 : w43.frozen? ⟨go39,((ji36) : Int).toNat * 3 + 2,none⟩ = false:=hfr39 2;clear hcl39 hcc39 hfr39 hM39;replace p39:=eq_true p39;replace q39:=eq_true q39;have HX45:=zA (show Kd.R k35 35 w43 w.heap.size (fun k_=>k_ ≠ gb350) (.slice (some ⟨go39,0,none⟩) x11_3.length co39) x11_3 from HO_11.out);obtain ⟨ce45,hcl45,hM45,hcc45,hfr45⟩:=Kd.R_elem HX45.out z35 ((ji36) : Int) od (by have h_ : ((ji36) : Int) < ((x11_3.length : Int) : Int):=od;exact h_);obtain rfl:=k35_openM hM45;have HP45:=Kd.R_seg HX45.out ((ji36) : Int) od (by have h_ : ((ji36) : Int) < ((x11_3.length : Int) : Int):=od;exact h_) (seg:=[.int .i32 t347,.int .u16 t348,.int .u8 t349]) (j:=0) hcl45 hcc45 (show 3 ≤ 3 from by decide) (x':=(⟨t347,t348,t349⟩ : S35)) (k35_mkM _ _ _ (⟨t347,t348,t349⟩ : S35) ) (fun _ hk=>hk);have hx45_0:=hcc45 0 _ rfl;(try simp only [show (k35).sz = 3 from rfl,Nat.mul_one,Nat.add_zero] at hx45_0);have hf45_0:=hfr45 0;(try simp only [show (k35).sz = 3 from rfl,Nat.mul_one,Nat.add_zero] at hf45_0);have hx45_1:=hcc45 1 _ rfl;(try simp only [show (k35).sz = 3 from rfl,Nat.mul_one,Nat.add_zero] at hx45_1);have hf45_1:=hfr45 1;(try simp only [show (k35).sz = 3 from rfl,Nat.mul_one,Nat.add_zero] at hf45_1);have hx45_2:=hcc45 2 _ rfl;(try simp only [show (k35).sz = 3 from rfl,Nat.mul_one,Nat.add_zero] at hx45_2);have hf45_2:=hfr45 2;(try simp only [show (k35).sz = 3 from rfl,Nat.mul_one,Nat.add_zero] at hf45_2);clear hcl45 hcc45 hfr45 hM45)|((with_reducible refine zH (t:=35) (p:=79) rfl ?_);refine store_event (t:=35) (p:=79) (v:=?vo_w46) (w1:=(((w43.setCell ⟨go39,((ji36) : Int).toNat * 3,none⟩ (.int .i32 t347)).setCell ⟨go39,((ji36) : Int).toNat * 3 + 1,none⟩ (.int .u16 t348)).setCell ⟨go39,((ji36) : Int).toNat * 3 + 2,none⟩ (.int .u8 t349))) ?hg ?ho ?hn ?hr ?_;(case ho=>rfl);(case hg=>rfl);(case hn=>rfl);(case hr=>(go_simp;done));intro w46 hw;have hg : w43.grownBy w46 (some go39):=(by rw [hw];exact HP45.2);have hp_ : Kd.R k35 35 w46 w.heap.size (fun k_=>k_ ≠ gb350) (.slice (some ⟨go39,0,none⟩) x11_3.length co39) y353:=(by rw [hw,Ny353.out];exact HP45.1);clear HP45;have n0_:=zA (hp_);have n1_:=zA (blk_grown (g:=gb350) (o:=.cells #[.int .i32 t347,.int .u16 t348,.int .u8 t349] 35 (0,0)) BK350.out hg (Kd.R_away HO_11.out (fun _ hk=>hk)));have n2_:=zA ((by rw [hw];exact below_set (below_set (below_set (HB.out) GB39.out) GB39.out) GB39.out : Below w.heap.size w w46));clear HO_11;clear BK350;clear HB;have HO_11:=n0_;have BK350:=n1_;have HB:=n2_;clear n0_ n1_ n2_;clear hg hw hp_));go_roundg k3
             case measure=>have:=HJ7.out;have:=HK2.out;have:=HK3.out;omega
             case rel=>exact ⟨(y353),(wrap64 (x15_3 + 1)),(by rfl),H',⟨by have:=HJ7.out;have:=HK2.out;have:=HK3.out;omega⟩,⟨by exact Kd.R_mono HO_11.out (fun _ hk=>trivial)⟩,⟨HB.out⟩⟩
            ·rw [if_neg c38] at H;exact absurd H (by simp)
           ·rw [if_neg c37] at H;exact absurd H (by simp)
         ·rw [if_neg c17] at H;have c17b0 : decide (x15_3 < a1) = false:=zD c17;clear c17;have H':=zA H;clear H;go_wp2;go_roundg k3
          case measure=>have:=HJ7.out;have:=HK2.out;have:=HK3.out;omega
          case rel=>exact ⟨(x11_3),(wrap64 (x14_2 + 1)),(by rfl),H',⟨by have:=HJ7.out;have:=HK2.out;have:=HK3.out;omega⟩,⟨HO_11.out⟩,⟨HB.out⟩⟩
      ·rw [if_neg c16] at H;have c16b0 : decide (x14_2 ≤ a3) = false:=zD c16;clear c16;obtain rfl:=zY H;go_wp2;go_ret;exact ⟨_,by rfl,HO_11.out,HB.out⟩
end Go.Proofs.Ytooageeehallbaa.QRunsCut
