/- Parts of the claim's proof, merged; no condition beyond what each theorem states. -/
import Derived.Test.YtooageeehallbaaProg
import Derived.Lib.LazyBuf
import Derived.Below
import Derived.Deep.Draws
import Derived.Deep.AppendLies
import Derived.Maps.AppendAt
import Derived.OwnWalk
import Derived.Laws.BytesArg
import Derived.Laws.MakeOwn
import Derived.Laws.OwnMore
import Derived.Deep.OwnRows
import Derived.Tactics
import Derived.Lib.ConvBytes
import Derived.Laws.Slices
import Derived.WalkKit
import Derived.KernelRfl
import Derived.RowKit3
import Derived.Deep.LoopGhost
import Derived.Deep.QuietTactic
import Derived.BigQuiet
import Derived.WideLaws
import Derived.Deep.DeepCutAuto
import Derived.Deep.CutBlock
import Derived.Deep.RegionHeld3
import Derived.Laws.Rows
import Derived.Lib.AppendStr
import Derived.ArgAppend
import Derived.Laws.IdiomCopy
import Derived.OrdersHeld
import Derived.Laws.BitsLemmas
import Derived.RowKit
import Derived.Lib.SlBytesConst
import Derived.Deep.WholeRow
import Derived.Test.YtooageeehallbaaWWords
import Derived.Test.YtooageeehallbaaWLast
import Derived.Test.YtooageeehallbaaWTab
import Derived.Test.YtooageeehallbaaWFour
import Derived.Test.YtooageeehallbaaWQPut
import Derived.Test.YtooageeehallbaaWApart
import Derived.Test.YtooageeehallbaaWArr
import Derived.Test.YtooageeehallbaaWZeros
import Derived.Test.YtooageeehallbaaWFoot
import Derived.Test.YtooageeehallbaaWKept
import Derived.Test.YtooageeehallbaaWShare
import Derived.Test.YtooageeehallbaaWN
import Derived.Test.YtooageeehallbaaWFootNe
import Derived.Test.YtooageeehallbaaWAt
import Derived.Test.YtooageeehallbaaWEqStruct
import Derived.Test.YtooageeehallbaaWRepsOne
import Derived.Test.YtooageeehallbaaWInv
import Derived.Test.YtooageeehallbaaWInvWords
import Derived.Test.YtooageeehallbaaWGuard
import Derived.Test.YtooageeehallbaaWNEv
import Derived.Test.YtooageeehallbaaWMore
import Derived.Laws.AppendOwn
import Derived.Laws.Tables
import Derived.Laws.CopyOwn
namespace Go.Proofs.Ytooageeehallbaa
open Go Go.RowKit Go.Proofs.YtooageeehallbaaW.PrintWords Go.Proofs.YtooageeehallbaaW.PrintLast Go.Proofs.YtooageeehallbaaW.PrintMore
abbrev zY := @Option.some.inj
end Go.Proofs.Ytooageeehallbaa
namespace Go.Proofs.Ytooageeehallbaa.QRunsCut
open Go.RowKit Go.Proofs.YtooageeehallbaaW.PrintWords Go.Proofs.YtooageeehallbaaW.PrintLast Go.Proofs.YtooageeehallbaaW.PrintMore
attribute [local go_sem] max2_int min2_int max_two min_two max_three min_three max_four min_four   -- for this text's walks alone
set_option linter.unusedVariables false
set_option linter.unusedSimpArgs false
def errW : Option Int → Value
|none=>.nilIface
|some c=>.iface 0 (.int .i64 c)
theorem errW_none : errW none = .nilIface:=rfl
theorem errW_some (c : Int) : errW (some c) = .iface 0 (.int .i64 c):=rfl
theorem info3 : (Try.prog.info? 3).map (fun i=>(i.zero,i.size,i.bytes)) = some (some (.int .i64 0),1,8):=by kernel_rfl
theorem info4 : (Try.prog.info? 4).map (fun i=>(i.zero,i.size,i.bytes)) = some (some (.bool false),1,1):=by kernel_rfl
theorem info5 : (Try.prog.info? 5).map (fun i=>(i.zero,i.size,i.bytes)) = some (some (.int .u8 0),1,1):=by kernel_rfl
theorem info21 : (Try.prog.info? 21).map (fun i=>(i.zero,i.size,i.bytes)) = some (some (.int .i32 0),1,4):=by kernel_rfl
theorem info35 : (Try.prog.info? 35).map (fun i=>(i.zero,i.size,i.bytes)) = some (some (.agg #[(.int .i32 0),(.int .u16 0),(.int .u8 0)]),3,8):=by kernel_rfl
theorem info87 : (Try.prog.info? 87).map (fun i=>(i.zero,i.size,i.bytes)) = some (some (.agg #[(.int .i64 0),(.int .i32 0),(.int .u8 0),(.int .u8 0),(.slice none 0 0),(.slice none 0 0)]),6,64):=by kernel_rfl
-- the values' own types
/-! #### struct type 35 -/
structure S35 where
 f0 : Int
 f1 : Int
 f2 : Int
def z35 : S35:=⟨(0 : Int),(0 : Int),(0 : Int)⟩
def k35 : Kd S35:=Kd.iso (Kd.pair (Kd.int .i32) (Kd.pair (Kd.int .u16) (Kd.int .u8))) (fun x : S35=>(x.f0,x.f1,x.f2))
theorem k35_open {w : World} {x : S35} {cs : List Value} (h : k35.K w x cs) : cs = [.int .i32 x.f0,.int .u16 x.f1,.int .u8 x.f2]:=by
 obtain ⟨_,_,rfl,rfl,⟨_,_,rfl,rfl,rfl⟩⟩:=h;exact rfl
theorem k35_openM {w : World} {base : Nat} {ok : Nat → Prop} {x : S35} {cs : List Value} (h : k35.M w base ok x cs) : cs = [.int .i32 x.f0,.int .u16 x.f1,.int .u8 x.f2]:=by
 obtain ⟨_,_,rfl,rfl,⟨_,_,rfl,rfl,rfl⟩⟩:=h;exact rfl
theorem k35_mk (w : World) (x : S35)  : k35.K w x [.int .i32 x.f0,.int .u16 x.f1,.int .u8 x.f2]:=⟨[.int .i32 x.f0],[.int .u16 x.f1,.int .u8 x.f2],rfl,rfl,⟨[.int .u16 x.f1],[.int .u8 x.f2],rfl,rfl,rfl⟩⟩
theorem k35_mkM (w : World) (base : Nat) (ok : Nat → Prop) (x : S35)  : k35.M w base ok x [.int .i32 x.f0,.int .u16 x.f1,.int .u8 x.f2]:=⟨[.int .i32 x.f0],[.int .u16 x.f1,.int .u8 x.f2],rfl,rfl,⟨[.int .u16 x.f1],[.int .u8 x.f2],rfl,rfl,rfl⟩⟩
def rd_T35 (xs : List S35) (i : Int) : S35:=xs.getD i.toNat z35
theorem at_T35 {w : World} {A : Option Addr} {n : Nat} {xs : List S35} (h : Kd.C k35 w A n xs) (i : Int) (h0 : 0 ≤ i) (h1 : i < n) : ∃ ad ,A = some ad∧w.cell? (ad.add (i.toNat * 3)) = some (.int .i32 (rd_T35 xs i).f0)∧w.cell? ⟨(ad.add (i.toNat * 3)).block,(ad.add (i.toNat * 3)).off + 1,none⟩ = some (.int .u16 (rd_T35 xs i).f1)∧w.cell? ⟨(ad.add (i.toNat * 3)).block,(ad.add (i.toNat * 3)).off + 2,none⟩ = some (.int .u8 (rd_T35 xs i).f2):=by
 obtain ⟨ad,c,e,_,hK,hc0⟩:=Kd.C_get h z35 i h0 h1;have hc : ∀ j u,c[j]? = some u → w.cell? (ad.add (i.toNat * 3 + j)) = some u:=hc0;obtain rfl:=k35_open hK;exact ⟨ad,e,hc 0 _ rfl,by rw [← add_field _ _ 1 (by omega)];exact hc 1 _ rfl,by rw [← add_field _ _ 2 (by omega)];exact hc 2 _ rfl⟩
/-! #### struct type 87 -/
structure S87 where
 f0 : Int
 f1 : Int
 f2 : Int
 f3 : Int
 f4 : (List Int)
 f5 : (List Int)
def z87 : S87:=⟨(0 : Int),(0 : Int),(0 : Int),(0 : Int),([] : List Int),([] : List Int)⟩
def k87 : Kd S87:=Kd.iso (Kd.pair (Kd.int .i64) (Kd.pair (Kd.int .i32) (Kd.pair (Kd.int .u8) (Kd.pair (Kd.int .u8) (Kd.pair (Kd.slice 3 (Kd.int .i64)) (Kd.slice 5 (Kd.int .u8))))))) (fun x : S87=>(x.f0,x.f1,x.f2,x.f3,x.f4,x.f5))
theorem k87_open {w : World} {x : S87} {cs : List Value} (h : k87.K w x cs) : ∃ A4 c4 A5 c5,cs = [.int .i64 x.f0,.int .i32 x.f1,.int .u8 x.f2,.int .u8 x.f3,.slice A4 x.f4.length c4,.slice A5 x.f5.length c5]∧x.f4.length ≤ c4∧(Kd.int .i64).C w A4 x.f4.length x.f4∧x.f5.length ≤ c5∧(Kd.int .u8).C w A5 x.f5.length x.f5:=by
 obtain ⟨_,_,rfl,rfl,⟨_,_,rfl,rfl,⟨_,_,rfl,rfl,⟨_,_,rfl,rfl,⟨_,_,rfl,⟨A4,c4,rfl,l4,g4⟩,⟨A5,c5,rfl,l5,g5⟩⟩⟩⟩⟩⟩:=h;exact ⟨A4,c4,A5,c5,rfl,l4,g4,l5,g5⟩
theorem k87_mk (w : World) (x : S87) {A4 : Option Addr} {c4 : Nat} (l4 : x.f4.length ≤ c4) (g4 : (Kd.int .i64).C w A4 x.f4.length x.f4) {A5 : Option Addr} {c5 : Nat} (l5 : x.f5.length ≤ c5) (g5 : (Kd.int .u8).C w A5 x.f5.length x.f5) : k87.K w x [.int .i64 x.f0,.int .i32 x.f1,.int .u8 x.f2,.int .u8 x.f3,.slice A4 x.f4.length c4,.slice A5 x.f5.length c5]:=⟨[.int .i64 x.f0],[.int .i32 x.f1,.int .u8 x.f2,.int .u8 x.f3,.slice A4 x.f4.length c4,.slice A5 x.f5.length c5],rfl,rfl,⟨[.int .i32 x.f1],[.int .u8 x.f2,.int .u8 x.f3,.slice A4 x.f4.length c4,.slice A5 x.f5.length c5],rfl,rfl,⟨[.int .u8 x.f2],[.int .u8 x.f3,.slice A4 x.f4.length c4,.slice A5 x.f5.length c5],rfl,rfl,⟨[.int .u8 x.f3],[.slice A4 x.f4.length c4,.slice A5 x.f5.length c5],rfl,rfl,⟨[.slice A4 x.f4.length c4],[.slice A5 x.f5.length c5],rfl,⟨A4,c4,rfl,l4,g4⟩,⟨A5,c5,rfl,l5,g5⟩⟩⟩⟩⟩⟩
theorem k87_mkM (w : World) (base : Nat) (ok : Nat → Prop) (x : S87) {v4 : Value} (g4 : (Kd.int .i64).R 3 w base ok v4 x.f4) {v5 : Value} (g5 : (Kd.int .u8).R 5 w base ok v5 x.f5) : k87.M w base ok x [.int .i64 x.f0,.int .i32 x.f1,.int .u8 x.f2,.int .u8 x.f3,v4,v5]:=⟨[.int .i64 x.f0],[.int .i32 x.f1,.int .u8 x.f2,.int .u8 x.f3,v4,v5],rfl,rfl,⟨[.int .i32 x.f1],[.int .u8 x.f2,.int .u8 x.f3,v4,v5],rfl,rfl,⟨[.int .u8 x.f2],[.int .u8 x.f3,v4,v5],rfl,rfl,⟨[.int .u8 x.f3],[v4,v5],rfl,rfl,⟨[v4],[v5],rfl,⟨v4,rfl,g4⟩,⟨v5,rfl,g5⟩⟩⟩⟩⟩⟩
theorem k87_openF {W : World} {ok : Nat → Prop} {x : S87} {cs : List Value} (h : Kd.FK k87 W ok x cs) : ∃ A4 c4 A5 c5,cs = [.int .i64 x.f0,.int .i32 x.f1,.int .u8 x.f2,.int .u8 x.f3,.slice A4 x.f4.length c4,.slice A5 x.f5.length c5]∧x.f4.length ≤ c4∧Kd.F (Kd.int .i64) W ok A4 x.f4.length x.f4∧x.f5.length ≤ c5∧Kd.F (Kd.int .u8) W ok A5 x.f5.length x.f5:=by
 obtain ⟨A4,c4,A5,c5,rfl,l4,_,l5,_⟩:=k87_open (Kd.FK_now h);exact ⟨A4,c4,A5,c5,rfl,l4,(fun W' hW=>by obtain ⟨A4_,c4_,A5_,c5_,he,l4_,g4_,l5_,g5_⟩:=k87_open (h W' hW);injection (zY (show some (Value.slice A4 x.f4.length c4) = some (Value.slice A4_ x.f4.length c4_) from congrArg (fun l=>l[4]?) he)) with ha_ _ _;rw [ha_];exact g4_),l5,(fun W' hW=>by obtain ⟨A4_,c4_,A5_,c5_,he,l4_,g4_,l5_,g5_⟩:=k87_open (h W' hW);injection (zY (show some (Value.slice A5 x.f5.length c5) = some (Value.slice A5_ x.f5.length c5_) from congrArg (fun l=>l[5]?) he)) with ha_ _ _;rw [ha_];exact g5_)⟩
/-- n marks,the first k of them true -/
def tk (n k : Nat) : Array Bool:=⟨List.replicate k true ++ List.replicate (n - k) false⟩
/-- what comes up next,by number and place,told beside a goal -/
def Todo (L : List (Nat × Option Tmp)) (p : Prop) : Prop:=p
theorem pGo {p : Prop} (L : List (Nat × Option Tmp)) (h : Todo L p) : p:=h
theorem pEnd {p : Prop} (h : p) : Todo [] p:=h
theorem pA {P : Program} {ops : Array Oper} {Q : Exit → Act → World → Prop} {md : Region.Mode} {S : World → Prop} {ds : List Nat} {k : Nat} {N : Option Tmp} {r : List (Nat × Option Tmp)} {oi : Oper} {v : Value} {fuel : Nat} {l : Array Bool} {a : Act} {w : World} (hi : ops[k]? = some oi) (hN : oi.dst = N) (hc : anyB md ops l (l.setIfInBounds k true) k = true)
 (hQ : ∀ c a w,Q (.panic c) (a.put oi.dst v) w → Q (.panic c) a w) (hy : Yields P ops oi v a) {a' : Act} (ha : a.put N v = a')
 (h : Todo r (wpAnyLast P md ops Q S ds fuel (l.setIfInBounds k true) a' w)) : Todo ((k,N) :: r) (wpAnyLast P md ops Q S ds (fuel + 1) l a w):=pure_ (l.setIfInBounds k true) hi hN hc hQ hy ha h
theorem cx {w W : World} {ad : Addr} {v : Value} (hb : Aside0 (Below w.heap.size w W)) (h : w.cell? ad = some v) : W.cell? ad = some v:=(hb.out.cell (World.block_lt_of_cell? w _ h)).trans h
theorem od {p : Prop} [Decidable p] (h : decide p = true:=by with_reducible assumption) : p:=of_decide_eq_true h
end Go.Proofs.Ytooageeehallbaa.QRunsCut
namespace Go.Proofs.Ytooageeehallbaa.QRunsCut
open Go.RowKit Go.Proofs.YtooageeehallbaaW.PrintWords Go.Proofs.YtooageeehallbaaW.PrintLast Go.Proofs.YtooageeehallbaaW.PrintMore
attribute [local go_sem] max2_int min2_int max_two min_two max_three min_three max_four min_four   -- for this text's walks alone
set_option linter.unusedVariables false
set_option linter.unusedSimpArgs false
theorem eqA35 (d : Nat) (w : World) (x0 y0 : Int) (x1 y1 : Int) (x2 y2 : Int) :
 (Op.equalIn (d + 2) 35 (.agg #[.int .i32 x0,.int .u16 x1,.int .u8 x2]) (.agg #[.int .i32 y0,.int .u16 y1,.int .u8 y2])).run Try.prog w = .ok (x0 == y0 && (x1 == y1 && (x2 == y2))) w:=by
 refine eqA_of Try.underlying35 (by kernel_rfl) ?_;refine eqf_cons (by rfl) (by go_simp;rfl) (by go_simp;rfl) (by go_simp) ?_;refine eqf_cons (by rfl) (by go_simp;rfl) (by go_simp;rfl) (by go_simp) ?_;exact eqf_last (by rfl) (by go_simp;rfl) (by go_simp;rfl) (by go_simp)
end Go.Proofs.Ytooageeehallbaa.QRunsCut
namespace Go.Proofs.Ytooageeehallbaa
open Go Go.RowKit Go.Proofs.YtooageeehallbaaW.PrintWords Go.Proofs.YtooageeehallbaaW.PrintLast Go.Proofs.YtooageeehallbaaW.PrintMore
abbrev zA := @Aside0.mk
abbrev zC := @decide_eq_true
abbrev zD := @decide_eq_false
end Go.Proofs.Ytooageeehallbaa
namespace Go.Proofs.Ytooageeehallbaa.QRunsCut
open Go.RowKit Go.Proofs.YtooageeehallbaaW.PrintWords Go.Proofs.YtooageeehallbaaW.PrintLast Go.Proofs.YtooageeehallbaaW.PrintMore
attribute [local go_sem] max2_int min2_int max_two min_two max_three min_three max_four min_four 
set_option linter.unusedVariables false
set_option linter.unusedSimpArgs false
/-! ### repriseref1_May: function 48 -/
def repriseref1_May.f (a0 : Int) : Option (Bool):=if a0 ≥ 0 then (if a0 ≤ 1114111 then (if a0 < 55296 then (some true) else (some (decide (a0 > 57343)))) else (some false)) else (some false)
set_option maxHeartbeats 8000000 in
set_option maxRecDepth 100000 in
theorem repriseref1_May.calls (a0 : Int) (r : Bool) (w : World) (h : repriseref1_May.f a0 = some r) :
 Calls Try.prog 48 #[.int .i32 a0] w fun e w'=>e = .returned (.bool r)∧Drawn0 w w':=by
 have H : (if a0 ≥ 0 then (if a0 ≤ 1114111 then (if a0 < 55296 then (some true) else (some (decide (a0 > 57343)))) else (some false)) else (some false)) = some r:=h;clear h;by_cases c2 : a0 ≥ 0
 ·rw [if_pos c2] at H;have c2b0 : decide (0 ≤ a0) = true:=zC c2;clear c2;by_cases c3 : a0 ≤ 1114111
  ·rw [if_pos c3] at H;have c3b0 : decide (a0 ≤ 1114111) = true:=zC c3;clear c3;by_cases c4 : a0 < 55296
   ·rw [if_pos c4] at H;have c4b0 : decide (a0 < 55296) = true:=zC c4;clear c4;obtain rfl:=zY H;go_enter Try.func48,Try.ntmps48
    go_wp2;go_ret;exact ⟨by rfl,by exact Drawn0.refl _⟩
   ·rw [if_neg c4] at H;have c4b0 : decide (a0 < 55296) = false:=zD c4;clear c4;obtain rfl:=zY H;go_enter Try.func48,Try.ntmps48
    go_wp2;go_ret;exact ⟨by rfl,by exact Drawn0.refl _⟩
  ·rw [if_neg c3] at H;have c3b0 : decide (a0 ≤ 1114111) = false:=zD c3;clear c3;obtain rfl:=zY H;go_enter Try.func48,Try.ntmps48
   go_wp2;go_ret;exact ⟨by rfl,by exact Drawn0.refl _⟩
 ·rw [if_neg c2] at H;have c2b0 : decide (0 ≤ a0) = false:=zD c2;clear c2;obtain rfl:=zY H;go_enter Try.func48,Try.ntmps48
  go_wp2;go_ret;exact ⟨by rfl,by exact Drawn0.refl _⟩
/-! ### repriseref1_whole: function 70 -/
mutual
def repriseref1_whole.j3 : Nat → List Int → Int → Int → Int → Option (Int × Bool)
|0,_,_,_,_=>none
|k + 1,x0,x5,x6,x7=>if (x0.length : Int) = x5 then (repriseref1_whole.l0 k x0 x5 x6 x7 1) else (some (0,false))
def repriseref1_whole.l0 : Nat → List Int → Int → Int → Int → Int → Option (Int × Bool)
|0,_,_,_,_,_=>none
|k + 1,x0,x5,x6,x7,x8=>if x8 < x5 then (if 0 ≤ x8 then (if x8 < (x0.length : Int) then (if (Go.bits .and .u8 (rd x0 x8) 192) = 128 then (repriseref1_whole.l0 k x0 x5 x6 (Go.bits .or .i32 (wrap32 (x7 * 64)) (wrap32 (Go.bits .and .u8 (rd x0 x8) 63))) (wrap64 (x8 + 1))) else (some (0,false))) else (none)) else (none)) else (if x7 ≥ x6 then ((repriseref1_May.f x7).bind fun t132=>(some (x7,t132))) else (some (x7,false)))
def repriseref1_whole.j0 : Nat → List Int → Int → Int → Int → Int → Bool → Option (Int × Bool)
|0,_,_,_,_,_,_=>none
|k + 1,x0,x4,x5,x6,x7,x14=>if x14 = true then (repriseref1_whole.j3 k x0 2 128 (wrap32 (Go.bits .and .u8 x4 31))) else (if x4 ≥ 224 then (repriseref1_whole.j1 k x0 x4 x5 x6 x7 (decide (x4 < 240))) else (repriseref1_whole.j1 k x0 x4 x5 x6 x7 false))
def repriseref1_whole.j1 : Nat → List Int → Int → Int → Int → Int → Bool → Option (Int × Bool)
|0,_,_,_,_,_,_=>none
|k + 1,x0,x4,x5,x6,x7,x24=>if x24 = true then (repriseref1_whole.j3 k x0 3 2048 (wrap32 (Go.bits .and .u8 x4 15))) else (if x4 ≥ 240 then (repriseref1_whole.j2 k x0 x4 x5 x6 x7 (decide (x4 < 248))) else (repriseref1_whole.j2 k x0 x4 x5 x6 x7 false))
def repriseref1_whole.j2 : Nat → List Int → Int → Int → Int → Int → Bool → Option (Int × Bool)
|0,_,_,_,_,_,_=>none
|k + 1,x0,x4,x5,x6,x7,x34=>if x34 = true then (repriseref1_whole.j3 k x0 4 65536 (wrap32 (Go.bits .and .u8 x4 7))) else (if x4 ≥ 128 then (some (0,false)) else (repriseref1_whole.j3 k x0 x5 x6 x7))
end
def repriseref1_whole.f (k : Nat) (l0 : List Int) : Option (Int × Bool):=if 0 < (l0.length : Int) then (if (rd l0 0) ≥ 192 then (repriseref1_whole.j0 k l0 (rd l0 0) 1 0 (wrap32 (rd l0 0)) (decide ((rd l0 0) < 224))) else (repriseref1_whole.j0 k l0 (rd l0 0) 1 0 (wrap32 (rd l0 0)) false)) else (none)
theorem repriseref1_whole.mono_l : ∀ k,(∀ y0 y1 y2 y3,LeO (repriseref1_whole.j3 k y0 y1 y2 y3) (repriseref1_whole.j3 (k + 1) y0 y1 y2 y3))∧(∀ y0 y1 y2 y3 y4,LeO (repriseref1_whole.l0 k y0 y1 y2 y3 y4) (repriseref1_whole.l0 (k + 1) y0 y1 y2 y3 y4))∧(∀ y0 y1 y2 y3 y4 y5,LeO (repriseref1_whole.j0 k y0 y1 y2 y3 y4 y5) (repriseref1_whole.j0 (k + 1) y0 y1 y2 y3 y4 y5))∧(∀ y0 y1 y2 y3 y4 y5,LeO (repriseref1_whole.j1 k y0 y1 y2 y3 y4 y5) (repriseref1_whole.j1 (k + 1) y0 y1 y2 y3 y4 y5))∧(∀ y0 y1 y2 y3 y4 y5,LeO (repriseref1_whole.j2 k y0 y1 y2 y3 y4 y5) (repriseref1_whole.j2 (k + 1) y0 y1 y2 y3 y4 y5))
|0=>⟨fun _ _ _ _ r h=>by simp [repriseref1_whole.j3] at h,fun _ _ _ _ _ r h=>by simp [repriseref1_whole.l0] at h,fun _ _ _ _ _ _ r h=>by simp [repriseref1_whole.j0] at h,fun _ _ _ _ _ _ r h=>by simp [repriseref1_whole.j1] at h,fun _ _ _ _ _ _ r h=>by simp [repriseref1_whole.j2] at h⟩
|k + 1=>by
  obtain ⟨ih0,ih1,ih2,ih3,ih4⟩:=repriseref1_whole.mono_l k;refine ⟨?_,?_,?_,?_,?_⟩
  ·intro y0 y1 y2 y3;unfold repriseref1_whole.j3;repeat' first
  |(with_reducible exact ih0 _ _ _ _)
  |(with_reducible exact ih1 _ _ _ _ _)
  |(with_reducible exact ih2 _ _ _ _ _ _)
  |(with_reducible exact ih3 _ _ _ _ _ _)
  |(with_reducible exact ih4 _ _ _ _ _ _)
  |(with_reducible exact LeO.refl _)
  |(with_reducible exact LeO.none _)
  |(with_reducible refine LeO.ite ?_ ?_)
  |(with_reducible refine LeO.bind ?_ (fun _=>?_))
  |exact ih0 _ _ _ _
  |exact ih1 _ _ _ _ _
  |exact ih2 _ _ _ _ _ _
  |exact ih3 _ _ _ _ _ _
  |exact ih4 _ _ _ _ _ _
  |exact LeO.none _
  |refine LeO.ite ?_ ?_
  |refine LeO.bind ?_ (fun _=>?_)
  ·intro y0 y1 y2 y3 y4;unfold repriseref1_whole.l0;repeat' first
  |(with_reducible exact ih0 _ _ _ _)
  |(with_reducible exact ih1 _ _ _ _ _)
  |(with_reducible exact ih2 _ _ _ _ _ _)
  |(with_reducible exact ih3 _ _ _ _ _ _)
  |(with_reducible exact ih4 _ _ _ _ _ _)
  |(with_reducible exact LeO.refl _)
  |(with_reducible exact LeO.none _)
  |(with_reducible refine LeO.ite ?_ ?_)
  |(with_reducible refine LeO.bind ?_ (fun _=>?_))
  |exact ih0 _ _ _ _
  |exact ih1 _ _ _ _ _
  |exact ih2 _ _ _ _ _ _
  |exact ih3 _ _ _ _ _ _
  |exact ih4 _ _ _ _ _ _
  |exact LeO.none _
  |refine LeO.ite ?_ ?_
  |refine LeO.bind ?_ (fun _=>?_)
  ·intro y0 y1 y2 y3 y4 y5;unfold repriseref1_whole.j0;repeat' first
  |(with_reducible exact ih0 _ _ _ _)
  |(with_reducible exact ih1 _ _ _ _ _)
  |(with_reducible exact ih2 _ _ _ _ _ _)
  |(with_reducible exact ih3 _ _ _ _ _ _)
  |(with_reducible exact ih4 _ _ _ _ _ _)
  |(with_reducible exact LeO.refl _)
  |(with_reducible exact LeO.none _)
  |(with_reducible refine LeO.ite ?_ ?_)
  |(with_reducible refine LeO.bind ?_ (fun _=>?_))
  |exact ih0 _ _ _ _
  |exact ih1 _ _ _ _ _
  |exact ih2 _ _ _ _ _ _
  |exact ih3 _ _ _ _ _ _
  |exact ih4 _ _ _ _ _ _
  |exact LeO.none _
  |refine LeO.ite ?_ ?_
  |refine LeO.bind ?_ (fun _=>?_)
  ·intro y0 y1 y2 y3 y4 y5;unfold repriseref1_whole.j1;repeat' first
  |(with_reducible exact ih0 _ _ _ _)
  |(with_reducible exact ih1 _ _ _ _ _)
  |(with_reducible exact ih2 _ _ _ _ _ _)
  |(with_reducible exact ih3 _ _ _ _ _ _)
  |(with_reducible exact ih4 _ _ _ _ _ _)
  |(with_reducible exact LeO.refl _)
  |(with_reducible exact LeO.none _)
  |(with_reducible refine LeO.ite ?_ ?_)
  |(with_reducible refine LeO.bind ?_ (fun _=>?_))
  |exact ih0 _ _ _ _
  |exact ih1 _ _ _ _ _
  |exact ih2 _ _ _ _ _ _
  |exact ih3 _ _ _ _ _ _
  |exact ih4 _ _ _ _ _ _
  |exact LeO.none _
  |refine LeO.ite ?_ ?_
  |refine LeO.bind ?_ (fun _=>?_)
  ·intro y0 y1 y2 y3 y4 y5;unfold repriseref1_whole.j2;repeat' first
  |(with_reducible exact ih0 _ _ _ _)
  |(with_reducible exact ih1 _ _ _ _ _)
  |(with_reducible exact ih2 _ _ _ _ _ _)
  |(with_reducible exact ih3 _ _ _ _ _ _)
  |(with_reducible exact ih4 _ _ _ _ _ _)
  |(with_reducible exact LeO.refl _)
  |(with_reducible exact LeO.none _)
  |(with_reducible refine LeO.ite ?_ ?_)
  |(with_reducible refine LeO.bind ?_ (fun _=>?_))
  |exact ih0 _ _ _ _
  |exact ih1 _ _ _ _ _
  |exact ih2 _ _ _ _ _ _
  |exact ih3 _ _ _ _ _ _
  |exact ih4 _ _ _ _ _ _
  |exact LeO.none _
  |refine LeO.ite ?_ ?_
  |refine LeO.bind ?_ (fun _=>?_)
theorem repriseref1_whole.mono : ∀ a0 k,LeO (repriseref1_whole.f k a0) (repriseref1_whole.f (k + 1) a0):=by
 intro a0 k;obtain ⟨ih0,ih1,ih2,ih3,ih4⟩:=repriseref1_whole.mono_l k;unfold repriseref1_whole.f;repeat' first
 |(with_reducible exact ih0 _ _ _ _)
 |(with_reducible exact ih1 _ _ _ _ _)
 |(with_reducible exact ih2 _ _ _ _ _ _)
 |(with_reducible exact ih3 _ _ _ _ _ _)
 |(with_reducible exact ih4 _ _ _ _ _ _)
 |(with_reducible exact LeO.refl _)
 |(with_reducible exact LeO.none _)
 |(with_reducible refine LeO.ite ?_ ?_)
 |(with_reducible refine LeO.bind ?_ (fun _=>?_))
 |exact ih0 _ _ _ _
 |exact ih1 _ _ _ _ _
 |exact ih2 _ _ _ _ _ _
 |exact ih3 _ _ _ _ _ _
 |exact ih4 _ _ _ _ _ _
 |exact LeO.none _
 |refine LeO.ite ?_ ?_
 |refine LeO.bind ?_ (fun _=>?_)
set_option maxHeartbeats 8000000 in
set_option maxRecDepth 100000 in
theorem repriseref1_whole.calls (k : Nat) (A0 : Option Addr) (c0 : Nat) (l0 : List Int) (r1 : Int) (r2 : Bool) (w : World) (hr0 : Kd.C (Kd.int .u8) w A0 l0.length l0) (hc0 : l0.length ≤ c0) (h : repriseref1_whole.f k l0 = some (r1,r2)) :
 Calls Try.prog 70 #[.slice A0 l0.length c0] w fun e w'=>e = .returned (.tuple #[.int .i32 r1,.bool r2])∧Drawn0 w w':=by
 have HR0:=zA hr0;have HC0:=zA hc0;clear hr0 hc0;have H : (if 0 < (l0.length : Int) then (if (rd l0 0) ≥ 192 then (repriseref1_whole.j0 k l0 (rd l0 0) 1 0 (wrap32 (rd l0 0)) (decide ((rd l0 0) < 224))) else (repriseref1_whole.j0 k l0 (rd l0 0) 1 0 (wrap32 (rd l0 0)) false)) else (none)) = some (r1,r2):=h;clear h;by_cases c2 : 0 < (l0.length : Int)
 ·rw [if_pos c2] at H;have c2b0 : decide (0 < (l0.length : Int)) = true:=zC c2;have c2b1 : decide (0 < l0.length) = true:=zC (by omega);clear c2;have HC3:=zA H;clear H;have p129 : 0 ≤ (0 : Int):=(by omega);have q129 : 0 < (l0.length : Int):=od;obtain ⟨ad129,e129,hx129_0⟩:=Kd.at_int HR0.out 0 p129 q129;cases e129;have qi129 : (0 < l0.length) = True:=eq_true (by omega);(try rw [show ((0 : Int)).toNat = 0 from rfl] at hx129_0);(try rw [Addr.add_zero'] at hx129_0);replace p129:=eq_true p129;replace q129:=eq_true q129;go_enter Try.func70,Try.ntmps70
  go_upto_block 0 with (fail)
  go_cut [5,6,7] (fun v5 v6 v7 wc=>∃ (kq : Nat) (x5_2 : Int) (x6_2 : Int) (x7_2 : Int),v5 = .int .i64 x5_2∧v6 = .int .i32 x6_2∧v7 = .int .i32 x7_2∧Aside0 (repriseref1_whole.j3 kq l0 x5_2 x6_2 x7_2 = some (r1,r2))∧Aside0 (kq ≤ k)∧Drawn0 w wc)
  case first =>
   have H:=HC3.out;clear HC3;have HC4:=zA H;clear H;go_upto_region 3 with (fail)
   go_cut [14] (fun v14 wc=>∃ (kq : Nat) (x14_3 : Bool),v14 = .bool x14_3∧Aside0 (repriseref1_whole.j0 kq l0 (rd l0 0) 1 0 (wrap32 (rd l0 0)) x14_3 = some (r1,r2))∧Aside0 (kq ≤ k)∧Drawn0 w wc)
   case first =>
    have H:=HC4.out;clear HC4;by_cases c5 : (rd l0 0) ≥ 192
    ·rw [if_pos c5] at H;have c5b0 : decide (192 ≤ (rd l0 0)) = true:=zC c5;clear c5;have H':=zA H;clear H;go_wp2;go_meet
     case rel=>exact ⟨_,(decide ((rd l0 0) < 224)),(by rfl),H',⟨by omega⟩,by exact Drawn0.refl _⟩
    ·rw [if_neg c5] at H;have c5b0 : decide (192 ≤ (rd l0 0)) = false:=zD c5;clear c5;have H':=zA H;clear H;go_wp2;go_meet
     case rel=>exact ⟨_,(false),(by rfl),H',⟨by omega⟩,by exact Drawn0.refl _⟩
   case rest =>
    clear HC4;(try clear p1);(try clear q1);(try clear hx1);(try clear qi1);(try clear c2);(try clear c2b0);(try clear c2b1);(try clear p2);(try clear p3);(try clear c5);(try clear c5b0);(try clear hx129_0);(try clear p129);(try clear q129);obtain ⟨kq,x14_3,rfl,HA,HJ3,⟨mc3,rfl⟩⟩:=hcut;cases kq with
   |zero=>exact absurd HA.out (by simp [repriseref1_whole.j0])
   |succ kj3 =>
     have H:=HA.out;clear HA;simp only [repriseref1_whole.j0] at H;by_cases c6 : x14_3 = true
     ·subst c6;have H1 : (repriseref1_whole.j3 kj3 l0 2 128 (wrap32 (Go.bits .and .u8 (rd l0 0) 31))) = some (r1,r2):=by rw [if_pos rfl] at H;exact H
      clear H;have H:=H1;clear H1;have H':=zA H;clear H;go_wp2;go_meet
      case rel=>exact ⟨_,(2),(128),(wrap32 (Go.bits .and .u8 (rd l0 0) 31)),(by rfl),(by rfl),(by rfl),H',⟨by have:=HJ3.out;omega⟩,by repeat (first|exact Drawn0.refl _|apply Drawn0.step)⟩
     ·replace c6:=Bool.eq_false_iff.mpr c6;subst c6;have H1 : (if (rd l0 0) ≥ 224 then (repriseref1_whole.j1 kj3 l0 (rd l0 0) 1 0 (wrap32 (rd l0 0)) (decide ((rd l0 0) < 240))) else (repriseref1_whole.j1 kj3 l0 (rd l0 0) 1 0 (wrap32 (rd l0 0)) false)) = some (r1,r2):=by rw [if_neg (show ¬ (false = true) by decide)] at H;exact H
      clear H;have H:=H1;clear H1;have HC7:=zA H;clear H;go_upto_region 5 with (fail)
      go_cut [24] (fun v24 wc=>∃ (kq : Nat) (x24_6 : Bool),v24 = .bool x24_6∧Aside0 (repriseref1_whole.j1 kq l0 (rd l0 0) 1 0 (wrap32 (rd l0 0)) x24_6 = some (r1,r2))∧Aside0 (kq ≤ kj3)∧Drawn0 w wc)
      case first =>
       have H:=HC7.out;clear HC7;by_cases c8 : (rd l0 0) ≥ 224
       ·rw [if_pos c8] at H;have c8b0 : decide (224 ≤ (rd l0 0)) = true:=zC c8;clear c8;have H':=zA H;clear H;go_wp2;go_meet
        case rel=>exact ⟨_,(decide ((rd l0 0) < 240)),(by rfl),H',⟨by have:=HJ3.out;omega⟩,by repeat (first|exact Drawn0.refl _|apply Drawn0.step)⟩
       ·rw [if_neg c8] at H;have c8b0 : decide (224 ≤ (rd l0 0)) = false:=zD c8;clear c8;have H':=zA H;clear H;go_wp2;go_meet
        case rel=>exact ⟨_,(false),(by rfl),H',⟨by have:=HJ3.out;omega⟩,by repeat (first|exact Drawn0.refl _|apply Drawn0.step)⟩
      case rest =>
       clear HC7;(try clear p1);(try clear q1);(try clear hx1);(try clear qi1);(try clear c2);(try clear c2b0);(try clear c2b1);(try clear p2);(try clear c3);(try clear p3);(try clear c5);(try clear c5b0);(try clear c6);(try clear c7);(try clear c8);(try clear c8b0);(try clear hx129_0);(try clear p1);(try clear p129);(try clear p2);(try clear p3);(try clear q1);(try clear q129);obtain ⟨kq,x24_6,rfl,HA,HJ6,⟨mc6,rfl⟩⟩:=hcut;cases kq with
      |zero=>exact absurd HA.out (by simp [repriseref1_whole.j1])
      |succ kj6 =>
        have H:=HA.out;clear HA;simp only [repriseref1_whole.j1] at H;by_cases c9 : x24_6 = true
        ·subst c9;have H1 : (repriseref1_whole.j3 kj6 l0 3 2048 (wrap32 (Go.bits .and .u8 (rd l0 0) 15))) = some (r1,r2):=by rw [if_pos rfl] at H;exact H
         clear H;have H:=H1;clear H1;have H':=zA H;clear H;go_wp2;go_meet
         case rel=>exact ⟨_,(3),(2048),(wrap32 (Go.bits .and .u8 (rd l0 0) 15)),(by rfl),(by rfl),(by rfl),H',⟨by have:=HJ3.out;have:=HJ6.out;omega⟩,by repeat (first|exact Drawn0.refl _|apply Drawn0.step)⟩
        ·replace c9:=Bool.eq_false_iff.mpr c9;subst c9;have H1 : (if (rd l0 0) ≥ 240 then (repriseref1_whole.j2 kj6 l0 (rd l0 0) 1 0 (wrap32 (rd l0 0)) (decide ((rd l0 0) < 248))) else (repriseref1_whole.j2 kj6 l0 (rd l0 0) 1 0 (wrap32 (rd l0 0)) false)) = some (r1,r2):=by rw [if_neg (show ¬ (false = true) by decide)] at H;exact H
         clear H;have H:=H1;clear H1;have HC10:=zA H;clear H;go_upto_region 7 with (fail)
         go_cut [34] (fun v34 wc=>∃ (kq : Nat) (x34_9 : Bool),v34 = .bool x34_9∧Aside0 (repriseref1_whole.j2 kq l0 (rd l0 0) 1 0 (wrap32 (rd l0 0)) x34_9 = some (r1,r2))∧Aside0 (kq ≤ kj6)∧Drawn0 w wc)
         case first =>
          have H:=HC10.out;clear HC10;by_cases c11 : (rd l0 0) ≥ 240
          ·rw [if_pos c11] at H;have c11b0 : decide (240 ≤ (rd l0 0)) = true:=zC c11;clear c11;have H':=zA H;clear H;go_wp2;go_meet
           case rel=>exact ⟨_,(decide ((rd l0 0) < 248)),(by rfl),H',⟨by have:=HJ3.out;have:=HJ6.out;omega⟩,by repeat (first|exact Drawn0.refl _|apply Drawn0.step)⟩
          ·rw [if_neg c11] at H;have c11b0 : decide (240 ≤ (rd l0 0)) = false:=zD c11;clear c11;have H':=zA H;clear H;go_wp2;go_meet
           case rel=>exact ⟨_,(false),(by rfl),H',⟨by have:=HJ3.out;have:=HJ6.out;omega⟩,by repeat (first|exact Drawn0.refl _|apply Drawn0.step)⟩
         case rest =>
          clear HC10;(try clear c1);(try clear p1);(try clear q1);(try clear hx1);(try clear qi1);(try clear c2);(try clear c2b0);(try clear c2b1);(try clear p2);(try clear c3);(try clear p3);(try clear c5);(try clear c5b0);(try clear c6);(try clear c7);(try clear c8);(try clear c8b0);(try clear c9);(try clear c11);(try clear c11b0);(try clear hx129_0);(try clear p1);(try clear p129);(try clear p2);(try clear p3);(try clear q1);(try clear q129);obtain ⟨kq,x34_9,rfl,HA,HJ9,⟨mc9,rfl⟩⟩:=hcut;cases kq with
         |zero=>exact absurd HA.out (by simp [repriseref1_whole.j2])
         |succ kj9 =>
           have H:=HA.out;clear HA;simp only [repriseref1_whole.j2] at H;by_cases c12 : x34_9 = true
           ·subst c12;have H1 : (repriseref1_whole.j3 kj9 l0 4 65536 (wrap32 (Go.bits .and .u8 (rd l0 0) 7))) = some (r1,r2):=by rw [if_pos rfl] at H;exact H
            clear H;have H:=H1;clear H1;have H':=zA H;clear H;go_wp2;go_meet
            case rel=>exact ⟨_,(4),(65536),(wrap32 (Go.bits .and .u8 (rd l0 0) 7)),(by rfl),(by rfl),(by rfl),H',⟨by have:=HJ3.out;have:=HJ6.out;have:=HJ9.out;omega⟩,by repeat (first|exact Drawn0.refl _|apply Drawn0.step)⟩
           ·replace c12:=Bool.eq_false_iff.mpr c12;subst c12;have H1 : (if (rd l0 0) ≥ 128 then (some (0,false)) else (repriseref1_whole.j3 kj9 l0 1 0 (wrap32 (rd l0 0)))) = some (r1,r2):=by rw [if_neg (show ¬ (false = true) by decide)] at H;exact H
            clear H;have H:=H1;clear H1;by_cases c13 : (rd l0 0) ≥ 128
            ·rw [if_pos c13] at H;have c13b0 : decide (128 ≤ (rd l0 0)) = true:=zC c13;clear c13;simp only [Option.some.injEq,Prod.mk.injEq] at H;obtain ⟨rfl,rfl⟩:=H;go_wp2;go_ret2;exact ⟨by rfl,by repeat (first|exact Drawn0.refl _|apply Drawn0.step)⟩
            ·rw [if_neg c13] at H;have c13b0 : decide (128 ≤ (rd l0 0)) = false:=zD c13;clear c13;have H':=zA H;clear H;go_wp2;go_meet
             case rel=>exact ⟨_,(1),(0),((wrap32 (rd l0 0))),(by rfl),(by rfl),(by rfl),H',⟨by have:=HJ3.out;have:=HJ6.out;have:=HJ9.out;omega⟩,by repeat (first|exact Drawn0.refl _|apply Drawn0.step)⟩
  case rest =>
   clear HC3;(try clear c1);(try clear p1);(try clear q1);(try clear hx1);(try clear qi1);(try clear c2);(try clear c2b0);(try clear c2b1);(try clear p2);(try clear c3);(try clear p3);(try clear c5);(try clear c5b0);(try clear c6);(try clear c7);(try clear c8);(try clear c8b0);(try clear c9);(try clear c11);(try clear c11b0);(try clear c12);(try clear p12);(try clear q12);(try clear hx12);(try clear qi12);(try clear c13);(try clear c13b0);(try clear hx129_0);(try clear p1);(try clear p129);(try clear p2);(try clear p3);(try clear q1);(try clear q129);obtain ⟨kq,x5_2,x6_2,x7_2,rfl,rfl,rfl,HA,HJ2,⟨mc2,rfl⟩⟩:=hcut;cases kq with
  |zero=>exact absurd HA.out (by simp [repriseref1_whole.j3])
  |succ kj2 =>
    have H:=HA.out;clear HA;simp only [repriseref1_whole.j3] at H;by_cases c14 : (l0.length : Int) = x5_2
    ·rw [if_pos c14] at H;have c14b0 : ((l0.length : Int) == x5_2) = true:=beq_iff_eq.mpr c14;have c14b1 : ((l0.length : Int) != x5_2) = false:=bne_eq_false_iff_eq.mpr c14;clear c14;have H':=zA H;clear H;go_wp2;go_loopg [7,8] kj2 (fun kq v7 v8 w'=>∃ (x7_2 : Int) (x8_2 : Int),v7 = .int .i32 x7_2∧v8 = .int .i64 x8_2∧Aside0 (repriseref1_whole.l0 kq l0 x5_2 x6_2 x7_2 x8_2 = some (r1,r2))∧Aside0 (kq ≤ kj2)∧Drawn0 w w')
     case atStart=>exact ⟨(x7_2),(1),(by rfl),(by rfl),H',⟨Nat.le_refl _⟩,by repeat (first|exact Drawn0.refl _|apply Drawn0.step)⟩
     case round =>
      clear H';(try clear c1);(try clear p1);(try clear q1);(try clear hx1);(try clear qi1);(try clear c2);(try clear c2b0);(try clear c2b1);(try clear p2);(try clear c3);(try clear p3);(try clear c5);(try clear c5b0);(try clear c6);(try clear c7);(try clear c8);(try clear c8b0);(try clear c9);(try clear c11);(try clear c11b0);(try clear c12);(try clear p12);(try clear q12);(try clear hx12);(try clear qi12);(try clear c13);(try clear c13b0);(try clear c14);(try clear c14b0);(try clear c14b1);(try clear hx129_0);(try clear p1);(try clear p12);(try clear p129);(try clear p2);(try clear p3);(try clear q1);(try clear q12);(try clear q129);obtain ⟨x7_2,x8_2,rfl,rfl,HA,HK2,⟨m2,rfl⟩⟩:=hrel;cases gk with
     |zero=>exact absurd HA.out (by simp [repriseref1_whole.l0])
     |succ k2 =>
       have H:=HA.out;clear HA;simp only [repriseref1_whole.l0] at H;by_cases c15 : x8_2 < x5_2
       ·rw [if_pos c15] at H;have c15b0 : decide (x8_2 < x5_2) = true:=zC c15;clear c15;by_cases c16 : 0 ≤ x8_2
        ·rw [if_pos c16] at H;have c16b0 : decide (0 ≤ x8_2) = true:=zC c16;clear c16;by_cases c17 : x8_2 < (l0.length : Int)
         ·rw [if_pos c17] at H;have c17b0 : decide (x8_2 < (l0.length : Int)) = true:=zC c17;clear c17;by_cases c18 : (Go.bits .and .u8 (rd l0 x8_2) 192) = 128
          ·rw [if_pos c18] at H;have c18b0 : ((Go.bits .and .u8 (rd l0 x8_2) 192) == 128) = true:=beq_iff_eq.mpr c18;have c18b1 : ((Go.bits .and .u8 (rd l0 x8_2) 192) != 128) = false:=bne_eq_false_iff_eq.mpr c18;clear c18;have H':=zA H;clear H;have p130 : 0 ≤ (x8_2 : Int):=od;have q130 : x8_2 < (l0.length : Int):=od;obtain ⟨ad130,e130,hx130_0⟩:=Kd.at_int HR0.out x8_2 p130 q130;obtain rfl : ad129 = ad130:=(by injection e130);replace p130:=eq_true p130;replace q130:=eq_true q130;have p131 : 0 ≤ (x8_2 : Int):=od;have q131 : x8_2 < (l0.length : Int):=od;obtain ⟨ad131,e131,hx131_0⟩:=Kd.at_int HR0.out x8_2 p131 q131;obtain rfl : ad129 = ad131:=(by injection e131);replace p131:=eq_true p131;replace q131:=eq_true q131;go_wp2;go_roundg k2
           case measure=>have:=HJ2.out;have:=HK2.out;omega
           case rel=>exact ⟨(Go.bits .or .i32 (wrap32 (x7_2 * 64)) (wrap32 (Go.bits .and .u8 (rd l0 x8_2) 63))),(wrap64 (x8_2 + 1)),(by rfl),(by rfl),H',⟨by have:=HJ2.out;have:=HK2.out;omega⟩,by repeat (first|exact Drawn0.refl _|apply Drawn0.step)⟩
          ·rw [if_neg c18] at H;have c18b0 : ((Go.bits .and .u8 (rd l0 x8_2) 192) == 128) = false:=beq_eq_false_iff_ne.mpr c18;have c18b1 : ((Go.bits .and .u8 (rd l0 x8_2) 192) != 128) = true:=bne_iff_ne.mpr c18;simp only [Option.some.injEq,Prod.mk.injEq] at H;obtain ⟨rfl,rfl⟩:=H;have p130 : 0 ≤ (x8_2 : Int):=od;have q130 : x8_2 < (l0.length : Int):=od;obtain ⟨ad130,e130,hx130_0⟩:=Kd.at_int HR0.out x8_2 p130 q130;obtain rfl : ad129 = ad130:=(by injection e130);replace p130:=eq_true p130;replace q130:=eq_true q130;go_wp2;go_ret2;exact ⟨by rfl,by repeat (first|exact Drawn0.refl _|apply Drawn0.step)⟩
         ·rw [if_neg c17] at H;exact absurd H (by simp)
        ·rw [if_neg c16] at H;exact absurd H (by simp)
       ·rw [if_neg c15] at H;have c15b0 : decide (x8_2 < x5_2) = false:=zD c15;clear c15;by_cases c19 : x7_2 ≥ x6_2
        ·rw [if_pos c19] at H;have c19b0 : decide (x6_2 ≤ x7_2) = true:=zC c19;clear c19;replace H:=Option.bind_eq_some_iff.mp H;obtain ⟨t132,A200,H⟩:=H;replace H : (some (x7_2,t132)) = some (r1,r2):=H;have A20:=zA A200;clear A200;simp only [Option.some.injEq,Prod.mk.injEq] at H;obtain ⟨rfl,rfl⟩:=H;go_wp2_with ((go_at_call 48;(with_reducible refine (repriseref1_May.calls x7_2 t132 _ A20.out).mono ?_);rintro e w' ⟨rfl,⟨nd,rfl⟩⟩));go_ret2;exact ⟨by rfl,by repeat (first|exact Drawn0.refl _|apply Drawn0.step)⟩
        ·rw [if_neg c19] at H;have c19b0 : decide (x6_2 ≤ x7_2) = false:=zD c19;clear c19;simp only [Option.some.injEq,Prod.mk.injEq] at H;obtain ⟨rfl,rfl⟩:=H;go_wp2;go_ret2;exact ⟨by rfl,by repeat (first|exact Drawn0.refl _|apply Drawn0.step)⟩
    ·rw [if_neg c14] at H;have c14b0 : ((l0.length : Int) == x5_2) = false:=beq_eq_false_iff_ne.mpr c14;have c14b1 : ((l0.length : Int) != x5_2) = true:=bne_iff_ne.mpr c14;simp only [Option.some.injEq,Prod.mk.injEq] at H;obtain ⟨rfl,rfl⟩:=H;go_wp2;go_ret2;exact ⟨by rfl,by repeat (first|exact Drawn0.refl _|apply Drawn0.step)⟩
 ·rw [if_neg c2] at H;exact absurd H (by simp)
end Go.Proofs.Ytooageeehallbaa.QRunsCut
namespace Go.Proofs.Ytooageeehallbaa.QRunsCut
open Go.RowKit Go.Proofs.YtooageeehallbaaW.PrintWords Go.Proofs.YtooageeehallbaaW.PrintLast Go.Proofs.YtooageeehallbaaW.PrintMore
attribute [local go_sem] max2_int min2_int max_two min_two max_three min_three max_four min_four 
set_option linter.unusedVariables false
set_option linter.unusedSimpArgs false
/-! ### leb_Read: function 59 -/
mutual
def leb_Read.l0 : Nat → List Int → Int → Int → Option (Int × Int × Int)
|0,_,_,_=>none
|k + 1,x0,x5,x8=>if x8 < 10 then (if x8 = (x0.length : Int) then (some (0,0,22)) else (if 0 ≤ x8 then (if x8 < (x0.length : Int) then (if x8 = 9 then (leb_Read.j1 k x0 x5 x8 (rd x0 x8) x8 (decide ((rd x0 x8) > 1))) else (leb_Read.j1 k x0 x5 x8 (rd x0 x8) x8 false)) else (none)) else (none))) else (some (0,0,21))
def leb_Read.j1 : Nat → List Int → Int → Int → Int → Int → Bool → Option (Int × Int × Int)
|0,_,_,_,_,_,_=>none
|k + 1,x0,x5,x6,x7,x8,x24=>if x24 = true then (some (0,0,21)) else (if 0 ≤ (wrap64 (7 * x6)) then (if x7 < 128 then (if x6 > 0 then (if x7 = 0 then (some (0,0,21)) else (some (Go.bits .or .u64 x5 (shl .u64 (IntKind.u64.wrap (Go.bits .andNot .u8 x7 128)) (wrap64 (7 * x6))),wrap64 (x6 + 1),0))) else (some (Go.bits .or .u64 x5 (shl .u64 (IntKind.u64.wrap (Go.bits .andNot .u8 x7 128)) (wrap64 (7 * x6))),wrap64 (x6 + 1),0))) else (leb_Read.l0 k x0 (Go.bits .or .u64 x5 (shl .u64 (IntKind.u64.wrap (Go.bits .andNot .u8 x7 128)) (wrap64 (7 * x6)))) (wrap64 (x8 + 1)))) else (none))
end
def leb_Read.f (k : Nat) (l0 : List Int) : Option (Int × Int × Int):=leb_Read.l0 k l0 0 0
theorem leb_Read.mono_l : ∀ k,(∀ y0 y1 y2,LeO (leb_Read.l0 k y0 y1 y2) (leb_Read.l0 (k + 1) y0 y1 y2))∧(∀ y0 y1 y2 y3 y4 y5,LeO (leb_Read.j1 k y0 y1 y2 y3 y4 y5) (leb_Read.j1 (k + 1) y0 y1 y2 y3 y4 y5))
|0=>⟨fun _ _ _ r h=>by simp [leb_Read.l0] at h,fun _ _ _ _ _ _ r h=>by simp [leb_Read.j1] at h⟩
|k + 1=>by
  obtain ⟨ih0,ih1⟩:=leb_Read.mono_l k;refine ⟨?_,?_⟩
  ·intro y0 y1 y2;unfold leb_Read.l0;repeat' first
  |(with_reducible exact ih0 _ _ _)
  |(with_reducible exact ih1 _ _ _ _ _ _)
  |(with_reducible exact LeO.refl _)
  |(with_reducible exact LeO.none _)
  |(with_reducible refine LeO.ite ?_ ?_)
  |(with_reducible refine LeO.bind ?_ (fun _=>?_))
  |exact ih0 _ _ _
  |exact ih1 _ _ _ _ _ _
  |exact LeO.none _
  |refine LeO.ite ?_ ?_
  |refine LeO.bind ?_ (fun _=>?_)
  ·intro y0 y1 y2 y3 y4 y5;unfold leb_Read.j1;repeat' first
  |(with_reducible exact ih0 _ _ _)
  |(with_reducible exact ih1 _ _ _ _ _ _)
  |(with_reducible exact LeO.refl _)
  |(with_reducible exact LeO.none _)
  |(with_reducible refine LeO.ite ?_ ?_)
  |(with_reducible refine LeO.bind ?_ (fun _=>?_))
  |exact ih0 _ _ _
  |exact ih1 _ _ _ _ _ _
  |exact LeO.none _
  |refine LeO.ite ?_ ?_
  |refine LeO.bind ?_ (fun _=>?_)
theorem leb_Read.mono : ∀ a0 k,LeO (leb_Read.f k a0) (leb_Read.f (k + 1) a0):=by
 intro a0 k;obtain ⟨ih0,ih1⟩:=leb_Read.mono_l k;unfold leb_Read.f;repeat' first
 |(with_reducible exact ih0 _ _ _)
 |(with_reducible exact ih1 _ _ _ _ _ _)
 |(with_reducible exact LeO.refl _)
 |(with_reducible exact LeO.none _)
 |(with_reducible refine LeO.ite ?_ ?_)
 |(with_reducible refine LeO.bind ?_ (fun _=>?_))
 |exact ih0 _ _ _
 |exact ih1 _ _ _ _ _ _
 |exact LeO.none _
 |refine LeO.ite ?_ ?_
 |refine LeO.bind ?_ (fun _=>?_)
set_option maxHeartbeats 8000000 in
set_option maxRecDepth 100000 in
theorem leb_Read.calls (k : Nat) (A0 : Option Addr) (c0 : Nat) (l0 : List Int) (r1 : Int) (r2 : Int) (r3 : Int) (w : World) (hr0 : Kd.C (Kd.int .u8) w A0 l0.length l0) (hc0 : l0.length ≤ c0) (h : leb_Read.f k l0 = some (r1,r2,r3)) :
 Calls Try.prog 59 #[.slice A0 l0.length c0] w fun e w'=>e = .returned (.tuple #[.int .u64 r1,.int .i64 r2,.int .i64 r3])∧Drawn0 w w':=by
 have HR0:=zA hr0;have HC0:=zA hc0;clear hr0 hc0;have H : (leb_Read.l0 k l0 0 0) = some (r1,r2,r3):=h;clear h;have H':=zA H;clear H;go_enter Try.func59,Try.ntmps59
 go_wp2;go_loopg [5,8] k (fun kq v5 v8 w'=>∃ (x5_1 : Int) (x8_1 : Int),v5 = .int .u64 x5_1∧v8 = .int .i64 x8_1∧Aside0 (leb_Read.l0 kq l0 x5_1 x8_1 = some (r1,r2,r3))∧Aside0 (kq ≤ k)∧Drawn0 w w')
 case atStart=>exact ⟨(0),(0),(by rfl),(by rfl),H',⟨Nat.le_refl _⟩,by exact Drawn0.refl _⟩
 case round =>
  clear H';obtain ⟨x5_1,x8_1,rfl,rfl,HA,HK1,⟨m1,rfl⟩⟩:=hrel;cases gk with
 |zero=>exact absurd HA.out (by simp [leb_Read.l0])
 |succ k1 =>
   have H:=HA.out;clear HA;simp only [leb_Read.l0] at H;by_cases c2 : x8_1 < 10
   ·rw [if_pos c2] at H;have c2b0 : decide (x8_1 < 10) = true:=zC c2;clear c2;by_cases c3 : x8_1 = (l0.length : Int)
    ·rw [if_pos c3] at H;have c3b0 : (x8_1 == (l0.length : Int)) = true:=beq_iff_eq.mpr c3;have c3b1 : (x8_1 != (l0.length : Int)) = false:=bne_eq_false_iff_eq.mpr c3;clear c3;simp only [Option.some.injEq,Prod.mk.injEq] at H;obtain ⟨rfl,rfl,rfl⟩:=H;go_wp2;go_ret3;exact ⟨by rfl,by repeat (first|exact Drawn0.refl _|apply Drawn0.step)⟩
    ·rw [if_neg c3] at H;have c3b0 : (x8_1 == (l0.length : Int)) = false:=beq_eq_false_iff_ne.mpr c3;have c3b1 : (x8_1 != (l0.length : Int)) = true:=bne_iff_ne.mpr c3;by_cases c4 : 0 ≤ x8_1
     ·rw [if_pos c4] at H;have c4b0 : decide (0 ≤ x8_1) = true:=zC c4;clear c4;by_cases c5 : x8_1 < (l0.length : Int)
      ·rw [if_pos c5] at H;have c5b0 : decide (x8_1 < (l0.length : Int)) = true:=zC c5;clear c5;have HC6:=zA H;clear H;have p1130 : 0 ≤ (x8_1 : Int):=od;have q1130 : x8_1 < (l0.length : Int):=od;obtain ⟨ad1130,e1130,hx1130_0⟩:=Kd.at_int HR0.out x8_1 p1130 q1130;cases e1130;replace p1130:=eq_true p1130;replace q1130:=eq_true q1130;go_upto_region 8 with (fail)
       go_cut [24] (fun v24 wc=>∃ (kq : Nat) (x24_5 : Bool),v24 = .bool x24_5∧Aside0 (leb_Read.j1 kq l0 x5_1 x8_1 (rd l0 x8_1) x8_1 x24_5 = some (r1,r2,r3))∧Aside0 (kq ≤ k1)∧Drawn0 w wc)
       case first =>
        have H:=HC6.out;clear HC6;by_cases c7 : x8_1 = 9
        ·rw [if_pos c7] at H;have c7b0 : (x8_1 == 9) = true:=beq_iff_eq.mpr c7;have c7b1 : (x8_1 != 9) = false:=bne_eq_false_iff_eq.mpr c7;clear c7;have H':=zA H;clear H;go_wp2;go_meet
         case rel=>exact ⟨_,(decide ((rd l0 x8_1) > 1)),(by rfl),H',⟨by have:=HK1.out;omega⟩,by repeat (first|exact Drawn0.refl _|apply Drawn0.step)⟩
        ·rw [if_neg c7] at H;have c7b0 : (x8_1 == 9) = false:=beq_eq_false_iff_ne.mpr c7;have c7b1 : (x8_1 != 9) = true:=bne_iff_ne.mpr c7;have H':=zA H;clear H;go_wp2;go_meet
         case rel=>exact ⟨_,(false),(by rfl),H',⟨by have:=HK1.out;omega⟩,by repeat (first|exact Drawn0.refl _|apply Drawn0.step)⟩
       case rest =>
        clear HC6;(try clear p1);(try clear q1);(try clear hx1);(try clear c2);(try clear c2b0);(try clear p2);(try clear c3);(try clear c3b0);(try clear c3b1);(try clear c4);(try clear c4b0);(try clear c5);(try clear c5b0);(try clear c7);(try clear c7b0);(try clear c7b1);(try clear hx1130_0);(try clear p1130);(try clear q1130);obtain ⟨kq,x24_5,rfl,HA,HJ5,⟨mc5,rfl⟩⟩:=hcut;cases kq with
       |zero=>exact absurd HA.out (by simp [leb_Read.j1])
       |succ kj5 =>
         have H:=HA.out;clear HA;simp only [leb_Read.j1] at H;by_cases c8 : x24_5 = true
         ·subst c8;have H1 : (some (0,0,21)) = some (r1,r2,r3):=by rw [if_pos rfl] at H;exact H
          clear H;have H:=H1;clear H1;simp only [Option.some.injEq,Prod.mk.injEq] at H;obtain ⟨rfl,rfl,rfl⟩:=H;go_wp2;go_ret3;exact ⟨by rfl,by repeat (first|exact Drawn0.refl _|apply Drawn0.step)⟩
         ·replace c8:=Bool.eq_false_iff.mpr c8;subst c8;have H1 : (if 0 ≤ (wrap64 (7 * x8_1)) then (if (rd l0 x8_1) < 128 then (if x8_1 > 0 then (if (rd l0 x8_1) = 0 then (some (0,0,21)) else (some (Go.bits .or .u64 x5_1 (shl .u64 (IntKind.u64.wrap (Go.bits .andNot .u8 (rd l0 x8_1) 128)) (wrap64 (7 * x8_1))),wrap64 (x8_1 + 1),0))) else (some (Go.bits .or .u64 x5_1 (shl .u64 (IntKind.u64.wrap (Go.bits .andNot .u8 (rd l0 x8_1) 128)) (wrap64 (7 * x8_1))),wrap64 (x8_1 + 1),0))) else (leb_Read.l0 kj5 l0 (Go.bits .or .u64 x5_1 (shl .u64 (IntKind.u64.wrap (Go.bits .andNot .u8 (rd l0 x8_1) 128)) (wrap64 (7 * x8_1)))) (wrap64 (x8_1 + 1)))) else (none)) = some (r1,r2,r3):=by rw [if_neg (show ¬ (false = true) by decide)] at H;exact H
          clear H;have H:=H1;clear H1;obtain ⟨ji9,hji9⟩ : ∃ j_ : Int,(wrap64 (7 * x8_1)) = j_:=⟨_,rfl⟩;replace H : (if 0 ≤ (ji9) then (if (rd l0 x8_1) < 128 then (if x8_1 > 0 then (if (rd l0 x8_1) = 0 then (some (0,0,21)) else (some (Go.bits .or .u64 x5_1 (shl .u64 (IntKind.u64.wrap (Go.bits .andNot .u8 (rd l0 x8_1) 128)) (ji9)),wrap64 (x8_1 + 1),0))) else (some (Go.bits .or .u64 x5_1 (shl .u64 (IntKind.u64.wrap (Go.bits .andNot .u8 (rd l0 x8_1) 128)) (ji9)),wrap64 (x8_1 + 1),0))) else (leb_Read.l0 kj5 l0 (Go.bits .or .u64 x5_1 (shl .u64 (IntKind.u64.wrap (Go.bits .andNot .u8 (rd l0 x8_1) 128)) (ji9))) (wrap64 (x8_1 + 1)))) else (none)) = some (r1,r2,r3):=by (rw [hji9] at H;exact H)
          have hji9w : (IntKind.i64.wrap (7 * x8_1)) = ji9:=(i64_w _).trans hji9;by_cases c10 : 0 ≤ (ji9)
          ·rw [if_pos c10] at H;have c10b0:=eq_true c10;have c10b1 : decide (0 ≤ (ji9)) = true:=zC c10;clear c10;obtain ⟨ji11,hji11⟩ : ∃ j_ : Int,(shl .u64 (IntKind.u64.wrap (Go.bits .andNot .u8 (rd l0 x8_1) 128)) (ji9)) = j_:=⟨_,rfl⟩;replace H : (if (rd l0 x8_1) < 128 then (if x8_1 > 0 then (if (rd l0 x8_1) = 0 then (some (0,0,21)) else (some (Go.bits .or .u64 x5_1 (ji11),wrap64 (x8_1 + 1),0))) else (some (Go.bits .or .u64 x5_1 (ji11),wrap64 (x8_1 + 1),0))) else (leb_Read.l0 kj5 l0 (Go.bits .or .u64 x5_1 (ji11)) (wrap64 (x8_1 + 1)))) = some (r1,r2,r3):=by (rw [hji11] at H;exact H)
           have hji11_ : (IntKind.u64.wrap ((IntKind.u64.wrap (Go.bits .andNot .u8 (rd l0 x8_1) 128)) * 2 ^ min (ji9).toNat 64)) = ji11:=hji11;have hji11z : (ji9) ≤ 64 → (IntKind.u64.wrap ((IntKind.u64.wrap (Go.bits .andNot .u8 (rd l0 x8_1) 128)) * 2 ^ (ji9).toNat)) = ji11:=shl_small hji11;by_cases c12 : (rd l0 x8_1) < 128
           ·rw [if_pos c12] at H;have c12b0 : decide ((rd l0 x8_1) < 128) = true:=zC c12;clear c12;by_cases c13 : x8_1 > 0
            ·rw [if_pos c13] at H;have c13b0 : decide (0 < x8_1) = true:=zC c13;clear c13;by_cases c14 : (rd l0 x8_1) = 0
             ·rw [if_pos c14] at H;have c14b0 : ((rd l0 x8_1) == 0) = true:=beq_iff_eq.mpr c14;have c14b1 : ((rd l0 x8_1) != 0) = false:=bne_eq_false_iff_eq.mpr c14;clear c14;simp only [Option.some.injEq,Prod.mk.injEq] at H;obtain ⟨rfl,rfl,rfl⟩:=H;go_wp2;go_ret3;exact ⟨by rfl,by repeat (first|exact Drawn0.refl _|apply Drawn0.step)⟩
             ·rw [if_neg c14] at H;have c14b0 : ((rd l0 x8_1) == 0) = false:=beq_eq_false_iff_ne.mpr c14;have c14b1 : ((rd l0 x8_1) != 0) = true:=bne_iff_ne.mpr c14;simp only [Option.some.injEq,Prod.mk.injEq] at H;obtain ⟨rfl,rfl,rfl⟩:=H;go_wp2;go_ret3;exact ⟨by rfl,by repeat (first|exact Drawn0.refl _|apply Drawn0.step)⟩
            ·rw [if_neg c13] at H;have c13b0 : decide (0 < x8_1) = false:=zD c13;clear c13;simp only [Option.some.injEq,Prod.mk.injEq] at H;obtain ⟨rfl,rfl,rfl⟩:=H;go_wp2;go_ret3;exact ⟨by rfl,by repeat (first|exact Drawn0.refl _|apply Drawn0.step)⟩
           ·rw [if_neg c12] at H;have c12b0 : decide ((rd l0 x8_1) < 128) = false:=zD c12;clear c12;have H':=zA H;clear H;go_wp2;go_roundg kj5
            case measure=>have:=HK1.out;have:=HJ5.out;omega
            case rel=>exact ⟨(Go.bits .or .u64 x5_1 (ji11)),(wrap64 (x8_1 + 1)),(by rfl),(by rfl),H',⟨by have:=HK1.out;have:=HJ5.out;omega⟩,by repeat (first|exact Drawn0.refl _|apply Drawn0.step)⟩
          ·rw [if_neg c10] at H;exact absurd H (by simp)
      ·rw [if_neg c5] at H;exact absurd H (by simp)
     ·rw [if_neg c4] at H;exact absurd H (by simp)
   ·rw [if_neg c2] at H;have c2b0 : decide (x8_1 < 10) = false:=zD c2;clear c2;simp only [Option.some.injEq,Prod.mk.injEq] at H;obtain ⟨rfl,rfl,rfl⟩:=H;go_wp2;go_ret3;exact ⟨by rfl,by repeat (first|exact Drawn0.refl _|apply Drawn0.step)⟩
/-! ### runs_run: function 49 -/
end Go.Proofs.Ytooageeehallbaa.QRunsCut
namespace Go.Proofs.YtooageeehallbaaW.PrintWords
open Go.RowKit
namespace Kd
section
variable {P : Program} {ops : Array Oper} {rest : List Oper} {o : Oper} {a : Act} {Q : Exit → Act → World → Prop} {Kc : Act → World → Prop}
/-- append(v,y...),y a string: where the row lies,too -/
theorem run_append_str_at (w : World) (base : Nat) (t u ty e : TypeId) (i : TypeInfo) (ht : P.underlying t = some (.slice e)) (hu : P.underlying u = some .string) (hi : P.info? e = some i) (hz : i.zero = some (.int .u8 0))
 (hsize : i.size = 1) (hby : i.bytes = 1) (v : Value) (n : Nat) (xs : List Value) (hown : w.ownsRow base e 1 v n xs) (s : ByteArray) (hbytes : n + s.size ≤ 140737488355328) (hbase : base ≤ w.heap.size) :
 ∃ v' w',(Builtin.append_ #[t,u] ty #[v,.string s]).run P w = .ok v' w'∧w'.ownsRow base e 1 v' (n + s.size) (xs ++ Lib.strCells s)∧w.grownBy w' v.ownBlock∧(v'.ownBlock = v.ownBlock∨v'.ownBlock = some w.heap.size):=by
 obtain ⟨v',w',hr,h2,h3,h4⟩:=Lib.run_append_own_string (P:=P) w base t u ty e i ht hu hi hz hsize hby v n xs hown s (by simp only [maxLen];omega) hbytes hbase;refine ⟨v',w',hr,h2,h3,?_⟩;rcases hown.2 with ⟨rfl,hn⟩|⟨g,cap,cur,rfl,hbg,hg,hnc,hcm,hcs,htake⟩
 ·by_cases hm : s.size = 0
  ·rw [h4.2 ⟨rfl,hm⟩];exact .inl rfl
  ·subst hn;have hr2:=run_append_nil_string (P:=P) w t u ty e i (.int .u8 0) ht hu hi hz s (by omega) (by omega) (by rw [hby];omega);rw [hr] at hr2;injection hr2 with hv hw
   subst hv;exact .inr (by simp [Value.ownBlock])
 ·by_cases hroom : n + s.size ≤ cap
  ·have hcs' : cur.size = cap:=by simpa using hcs
   have hr2:=Lib.run_append_room_string (P:=P) w t u ty e i ht hu hi hsize g n cap cur hg s hroom (by omega);rw [hr] at hr2;injection hr2 with hv hw
   subst hv;exact .inl (by simp [Value.ownBlock])
  ·have hxl : xs.length = n:=by simpa using hown.1
   have holds : ∀ j u,xs[j]? = some u → w.cell? ((⟨g,0,none⟩ : Addr).add j) = some u:=hown.cells (g:=g) rfl;have hr2:=Lib.run_append_grow_string (P:=P) w t u ty e i (.int .u8 0) ht hu hi hz ⟨g,0,none⟩ n cap xs (by rw [hsize];simpa using hxl) holds s (by omega) (by omega) (by rw [hby];exact growslice_fits (by omega) (by omega));rw [hr] at hr2;injection hr2 with hv hw
   subst hv;exact .inr (by simp [Value.ownBlock])
theorem append_str_row {W w1 : World} {base e : Nat} {ok : Nat → Prop} {v v1 : Value} {xs : List Int} {y : ByteArray} (HO : (Kd.int .u8).R e W base ok v xs) (hfresh : ∀ k,W.heap.size ≤ k → ok k)
 (h2 : w1.ownsRow base e 1 v1 (xs.length + y.size) (nums .u8 xs ++ Lib.strCells y)) (hat : v1.ownBlock = v.ownBlock∨v1.ownBlock = some W.heap.size) : (Kd.int .u8).R e w1 base ok v1 (xs ++ bytesOf y):=by
 have hl2 : (xs ++ bytesOf y).length = xs.length + y.size:=by rw [List.length_append,bytesOf_length]
 have hc : encs (Value.int .u8) (xs ++ bytesOf y) = nums .u8 xs ++ Lib.strCells y:=by
  rw [encs_append];congr 1
  simp [encs,bytesOf,Lib.strCells]
 refine R_of_own (h1:=fun _=>rfl) (by rw [hl2,hc];exact h2) (fun k hk=>?_);rcases hat with hat|hat
 ·exact HO.1 k (hat ▸ hk)
 ·rw [hat] at hk;injection hk with hk
  exact hfresh k (by omega)
theorem R_append_str {w0 W : World} (base : Nat) (hgd : o.guard = none) (s x : Operand) (t u e : TypeId)
 (ho : o.op = .call { callee:=.builtin .append,args:=#[s,x],argTypes:=#[t,u] })
 (ht : P.underlying t = some (.slice e)) (hu : P.underlying u = some .string) (hinfo : (P.info? e).map (fun i=>(i.zero,i.size,i.bytes)) = some (some (.int .u8 0),1,1))
 (v : Value) (xs : List Int) (y : ByteArray) (ok : Nat → Prop) (hs : a.eval s = v) (hx : a.eval x = .string y)
 (HO : (Kd.int .u8).R e W base ok v xs) (hfresh : ∀ k,W.heap.size ≤ k → ok k) (HB : Below base w0 W) (hbase : base ≤ W.heap.size) (hl : xs.length + y.size ≤ 140737488355328)
 (h : ∀ v1 w1,(Kd.int .u8).R e w1 base ok v1 (xs ++ bytesOf y) → Below base w0 w1 → W.grownBy w1 v.ownBlock → (v1.ownBlock = v.ownBlock∨∃ b,v1.ownBlock = some b∧W.heap.size ≤ b) → wpList P ops Q rest (a.put o.dst v1) w1) :
 wpList P ops Q (o :: rest) a W:=by
 obtain ⟨i0,hi,hzz⟩:=Option.map_eq_some_iff.1 hinfo;simp only [Prod.mk.injEq] at hzz;obtain ⟨hz0,hz1,hz2⟩:=hzz;have hown:=own_of_R HO;obtain ⟨v',w',hr,h2,hg,hat⟩:=run_append_str_at (P:=P) W base t u o.type e i0 ht hu hi hz0 hz1 hz2 v xs.length (nums .u8 xs) hown y hl hbase;refine wpList_plain hgd fun K hK=>?_
 unfold Oper.wp execOp;simp only [ho,resolve,invoke,builtin,Sem.run_bind,Sem.run_pure,Result.andThen_ok,List.map_toArray,List.map_cons,List.map_nil,hs,hx,hr];exact hK _ _ (h v' w' (append_str_row HO hfresh h2 hat) (HB.grown hg hbase (own_base hown)) hg (hat.imp id (fun h=>⟨_,h,Nat.le_refl _⟩)))
end
end Kd
end Go.Proofs.YtooageeehallbaaW.PrintWords
namespace Go.Proofs.Ytooageeehallbaa
open Go Go.RowKit Go.Proofs.YtooageeehallbaaW.PrintWords Go.Proofs.YtooageeehallbaaW.PrintLast Go.Proofs.YtooageeehallbaaW.PrintMore
abbrev zE := @Below.refl
abbrev zG := @gate_dst
abbrev zI := @gate_callee
abbrev zS := @List.map_toArray
abbrev zT := @List.map_cons
abbrev zU := @List.map_nil
end Go.Proofs.Ytooageeehallbaa
namespace Go.Proofs.Ytooageeehallbaa.QRunsCut
open Go.RowKit Go.Proofs.YtooageeehallbaaW.PrintWords Go.Proofs.YtooageeehallbaaW.PrintLast Go.Proofs.YtooageeehallbaaW.PrintMore
attribute [local go_sem] max2_int min2_int max_two min_two max_three min_three max_four min_four 
set_option linter.unusedVariables false
set_option linter.unusedSimpArgs false
/-! ### repriseref5_CellRight: function 20 -/
def repriseref5_CellRight.f (a0_0 : Int) (a0_1 : Int) (a0_2 : Int) : Option (Bool):=(repriseref1_May.f a0_0).bind fun t1173=>(if t1173 = true then (if a0_1 < 4096 then (if (Go.bits .and .u16 a0_1 8) = 0 then (if (Go.bits .and .u16 (a0_1 / 16) 15) ≤ 8 then (if (Go.bits .and .u16 (a0_1 / 256) 15) ≤ 8 then (if a0_2 ≤ 2 then (some ((a0_0 == 0) == (a0_2 == 2))) else (some false)) else (some false)) else (some false)) else (some false)) else (some false)) else (some false))
set_option maxHeartbeats 8000000 in
set_option maxRecDepth 100000 in
theorem repriseref5_CellRight.calls (a0_0 : Int) (a0_1 : Int) (a0_2 : Int) (r : Bool) (w : World) (h : repriseref5_CellRight.f a0_0 a0_1 a0_2 = some r) :
 Calls Try.prog 20 #[.agg #[.int .i32 a0_0,.int .u16 a0_1,.int .u8 a0_2]] w fun e w'=>e = .returned (.bool r)∧Below w.heap.size w w':=by
 have hu35:=Try.underlying35;have HB:=zA (zE w.heap.size w);have H : ((repriseref1_May.f a0_0).bind fun t1173=>(if t1173 = true then (if a0_1 < 4096 then (if (Go.bits .and .u16 a0_1 8) = 0 then (if (Go.bits .and .u16 (a0_1 / 16) 15) ≤ 8 then (if (Go.bits .and .u16 (a0_1 / 256) 15) ≤ 8 then (if a0_2 ≤ 2 then (some ((a0_0 == 0) == (a0_2 == 2))) else (some false)) else (some false)) else (some false)) else (some false)) else (some false)) else (some false))) = some r:=h;clear h;replace H:=Option.bind_eq_some_iff.mp H;obtain ⟨t1173,A20,H⟩:=H;replace H : (if t1173 = true then (if a0_1 < 4096 then (if (Go.bits .and .u16 a0_1 8) = 0 then (if (Go.bits .and .u16 (a0_1 / 16) 15) ≤ 8 then (if (Go.bits .and .u16 (a0_1 / 256) 15) ≤ 8 then (if a0_2 ≤ 2 then (some ((a0_0 == 0) == (a0_2 == 2))) else (some false)) else (some false)) else (some false)) else (some false)) else (some false)) else (some false)) = some r:=H;have A2:=zA A20;clear A20;by_cases c3 : t1173 = true
 ·subst c3;have H1 : (if a0_1 < 4096 then (if (Go.bits .and .u16 a0_1 8) = 0 then (if (Go.bits .and .u16 (a0_1 / 16) 15) ≤ 8 then (if (Go.bits .and .u16 (a0_1 / 256) 15) ≤ 8 then (if a0_2 ≤ 2 then (some ((a0_0 == 0) == (a0_2 == 2))) else (some false)) else (some false)) else (some false)) else (some false)) else (some false)) = some r:=by rw [if_pos rfl] at H;exact H
  clear H;have H:=H1;clear H1;by_cases c4 : a0_1 < 4096
  ·rw [if_pos c4] at H;have c4b0 : decide (a0_1 < 4096) = true:=zC c4;clear c4;by_cases c5 : (Go.bits .and .u16 a0_1 8) = 0
   ·rw [if_pos c5] at H;have c5b0 : ((Go.bits .and .u16 a0_1 8) == 0) = true:=beq_iff_eq.mpr c5;have c5b1 : ((Go.bits .and .u16 a0_1 8) != 0) = false:=bne_eq_false_iff_eq.mpr c5;clear c5;by_cases c6 : (Go.bits .and .u16 (a0_1 / 16) 15) ≤ 8
    ·rw [if_pos c6] at H;have c6b0 : decide ((Go.bits .and .u16 (a0_1 / 16) 15) ≤ 8) = true:=zC c6;clear c6;by_cases c7 : (Go.bits .and .u16 (a0_1 / 256) 15) ≤ 8
     ·rw [if_pos c7] at H;have c7b0 : decide ((Go.bits .and .u16 (a0_1 / 256) 15) ≤ 8) = true:=zC c7;clear c7;by_cases c8 : a0_2 ≤ 2
      ·rw [if_pos c8] at H;have c8b0 : decide (a0_2 ≤ 2) = true:=zC c8;clear c8;obtain rfl:=zY H;go_enter Try.func20,Try.ntmps20
       go_wp2_with (first|((with_reducible refine zG (N:=1) rfl ?_);refine box_event ?hg (N:=1) ?hd (cs:=#[.int .i32 a0_0,.int .u16 a0_1,.int .u8 a0_2]) (t:=35) ?hr ?_;(case hd=>rfl);(case hg=>rfl);(case hr=>(go_simp;done));intro gb1172 hg w9 hbox hb;have n0_:=zA (below_step HB.out hb);have n1_:=zA (hbox);have n2_:=zA ((by rw [hg];exact (below_size HB.out) : w.heap.size ≤ gb1172));have n3_:=zA ((by rw [hg];exact (below_size HB.out) : w.heap.size ≤ gb1172));clear HB;have HB:=n0_;have BK1172:=n1_;have GW1172:=n2_;have GE1172:=n3_;clear n0_ n1_ n2_ n3_;clear hb hbox hg;have hcz10_0 : w9.cell? ⟨gb1172,0,none⟩ = some (.int .i32 a0_0):=(blk_cell BK1172.out 0).trans rfl;have hcz10_1 : w9.cell? ⟨gb1172,1,none⟩ = some (.int .u16 a0_1):=(blk_cell BK1172.out 1).trans rfl;have hcz10_2 : w9.cell? ⟨gb1172,2,none⟩ = some (.int .u8 a0_2):=(blk_cell BK1172.out 2).trans rfl;have hfz10_0:=blk_frozen BK1172.out 0;have hfz10_1:=blk_frozen BK1172.out 1;have hfz10_2:=blk_frozen BK1172.out 2)|((with_reducible refine zI (f:=48) rfl ?_);refine goesL_ (some 5) rfl rfl Try.func48 (by kernel_rfl) rfl #[.int .i32 a0_0] rfl (by (try simp only [zS,zT,zU]);rfl) ?_;(with_reducible refine (repriseref1_May.calls a0_0 true _ A2.out).mono ?_);rintro e w' ⟨rfl,⟨nd,rfl⟩⟩;refine ⟨_,rfl,?_⟩));go_ret;exact ⟨by rfl,by repeat ((with_reducible first|exact HB.out|apply pw_below_drewN))⟩
      ·rw [if_neg c8] at H;have c8b0 : decide (a0_2 ≤ 2) = false:=zD c8;clear c8;obtain rfl:=zY H;go_enter Try.func20,Try.ntmps20
       go_wp2_with (first|((with_reducible refine zG (N:=1) rfl ?_);refine box_event ?hg (N:=1) ?hd (cs:=#[.int .i32 a0_0,.int .u16 a0_1,.int .u8 a0_2]) (t:=35) ?hr ?_;(case hd=>rfl);(case hg=>rfl);(case hr=>(go_simp;done));intro gb1172 hg w11 hbox hb;have n0_:=zA (below_step HB.out hb);have n1_:=zA (hbox);have n2_:=zA ((by rw [hg];exact (below_size HB.out) : w.heap.size ≤ gb1172));have n3_:=zA ((by rw [hg];exact (below_size HB.out) : w.heap.size ≤ gb1172));clear HB;have HB:=n0_;have BK1172:=n1_;have GW1172:=n2_;have GE1172:=n3_;clear n0_ n1_ n2_ n3_;clear hb hbox hg;have hcz12_0 : w11.cell? ⟨gb1172,0,none⟩ = some (.int .i32 a0_0):=(blk_cell BK1172.out 0).trans rfl;have hcz12_1 : w11.cell? ⟨gb1172,1,none⟩ = some (.int .u16 a0_1):=(blk_cell BK1172.out 1).trans rfl;have hcz12_2 : w11.cell? ⟨gb1172,2,none⟩ = some (.int .u8 a0_2):=(blk_cell BK1172.out 2).trans rfl;have hfz12_0:=blk_frozen BK1172.out 0;have hfz12_1:=blk_frozen BK1172.out 1;have hfz12_2:=blk_frozen BK1172.out 2)|((with_reducible refine zI (f:=48) rfl ?_);refine goesL_ (some 5) rfl rfl Try.func48 (by kernel_rfl) rfl #[.int .i32 a0_0] rfl (by (try simp only [zS,zT,zU]);rfl) ?_;(with_reducible refine (repriseref1_May.calls a0_0 true _ A2.out).mono ?_);rintro e w' ⟨rfl,⟨nd,rfl⟩⟩;refine ⟨_,rfl,?_⟩));go_ret;exact ⟨by rfl,by repeat ((with_reducible first|exact HB.out|apply pw_below_drewN))⟩
     ·rw [if_neg c7] at H;have c7b0 : decide ((Go.bits .and .u16 (a0_1 / 256) 15) ≤ 8) = false:=zD c7;clear c7;obtain rfl:=zY H;go_enter Try.func20,Try.ntmps20
      go_wp2_with (first|((with_reducible refine zG (N:=1) rfl ?_);refine box_event ?hg (N:=1) ?hd (cs:=#[.int .i32 a0_0,.int .u16 a0_1,.int .u8 a0_2]) (t:=35) ?hr ?_;(case hd=>rfl);(case hg=>rfl);(case hr=>(go_simp;done));intro gb1172 hg w13 hbox hb;have n0_:=zA (below_step HB.out hb);have n1_:=zA (hbox);have n2_:=zA ((by rw [hg];exact (below_size HB.out) : w.heap.size ≤ gb1172));have n3_:=zA ((by rw [hg];exact (below_size HB.out) : w.heap.size ≤ gb1172));clear HB;have HB:=n0_;have BK1172:=n1_;have GW1172:=n2_;have GE1172:=n3_;clear n0_ n1_ n2_ n3_;clear hb hbox hg;have hcz14_0 : w13.cell? ⟨gb1172,0,none⟩ = some (.int .i32 a0_0):=(blk_cell BK1172.out 0).trans rfl;have hcz14_1 : w13.cell? ⟨gb1172,1,none⟩ = some (.int .u16 a0_1):=(blk_cell BK1172.out 1).trans rfl;have hcz14_2 : w13.cell? ⟨gb1172,2,none⟩ = some (.int .u8 a0_2):=(blk_cell BK1172.out 2).trans rfl;have hfz14_0:=blk_frozen BK1172.out 0;have hfz14_1:=blk_frozen BK1172.out 1;have hfz14_2:=blk_frozen BK1172.out 2)|((with_reducible refine zI (f:=48) rfl ?_);refine goesL_ (some 5) rfl rfl Try.func48 (by kernel_rfl) rfl #[.int .i32 a0_0] rfl (by (try simp only [zS,zT,zU]);rfl) ?_;(with_reducible refine (repriseref1_May.calls a0_0 true _ A2.out).mono ?_);rintro e w' ⟨rfl,⟨nd,rfl⟩⟩;refine ⟨_,rfl,?_⟩));go_ret;exact ⟨by rfl,by repeat ((with_reducible first|exact HB.out|apply pw_below_drewN))⟩
    ·rw [if_neg c6] at H;have c6b0 : decide ((Go.bits .and .u16 (a0_1 / 16) 15) ≤ 8) = false:=zD c6;clear c6;obtain rfl:=zY H;go_enter Try.func20,Try.ntmps20
     go_wp2_with (first|((with_reducible refine zG (N:=1) rfl ?_);refine box_event ?hg (N:=1) ?hd (cs:=#[.int .i32 a0_0,.int .u16 a0_1,.int .u8 a0_2]) (t:=35) ?hr ?_;(case hd=>rfl);(case hg=>rfl);(case hr=>(go_simp;done));intro gb1172 hg w15 hbox hb;have n0_:=zA (below_step HB.out hb);have n1_:=zA (hbox);have n2_:=zA ((by rw [hg];exact (below_size HB.out) : w.heap.size ≤ gb1172));have n3_:=zA ((by rw [hg];exact (below_size HB.out) : w.heap.size ≤ gb1172));clear HB;have HB:=n0_;have BK1172:=n1_;have GW1172:=n2_;have GE1172:=n3_;clear n0_ n1_ n2_ n3_;clear hb hbox hg;have hcz16_0 : w15.cell? ⟨gb1172,0,none⟩ = some (.int .i32 a0_0):=(blk_cell BK1172.out 0).trans rfl;have hcz16_1 : w15.cell? ⟨gb1172,1,none⟩ = some (.int .u16 a0_1):=(blk_cell BK1172.out 1).trans rfl;have hcz16_2 : w15.cell? ⟨gb1172,2,none⟩ = some (.int .u8 a0_2):=(blk_cell BK1172.out 2).trans rfl;have hfz16_0:=blk_frozen BK1172.out 0;have hfz16_1:=blk_frozen BK1172.out 1;have hfz16_2:=blk_frozen BK1172.out 2)|((with_reducible refine zI (f:=48) rfl ?_);refine goesL_ (some 5) rfl rfl Try.func48 (by kernel_rfl) rfl #[.int .i32 a0_0] rfl (by (try simp only [zS,zT,zU]);rfl) ?_;(with_reducible refine (repriseref1_May.calls a0_0 true _ A2.out).mono ?_);rintro e w' ⟨rfl,⟨nd,rfl⟩⟩;refine ⟨_,rfl,?_⟩));go_ret;exact ⟨by rfl,by repeat ((with_reducible first|exact HB.out|apply pw_below_drewN))⟩
   ·rw [if_neg c5] at H;have c5b0 : ((Go.bits .and .u16 a0_1 8) == 0) = false:=beq_eq_false_iff_ne.mpr c5;have c5b1 : ((Go.bits .and .u16 a0_1 8) != 0) = true:=bne_iff_ne.mpr c5;obtain rfl:=zY H;go_enter Try.func20,Try.ntmps20
    go_wp2_with (first|((with_reducible refine zG (N:=1) rfl ?_);refine box_event ?hg (N:=1) ?hd (cs:=#[.int .i32 a0_0,.int .u16 a0_1,.int .u8 a0_2]) (t:=35) ?hr ?_;(case hd=>rfl);(case hg=>rfl);(case hr=>(go_simp;done));intro gb1172 hg w17 hbox hb;have n0_:=zA (below_step HB.out hb);have n1_:=zA (hbox);have n2_:=zA ((by rw [hg];exact (below_size HB.out) : w.heap.size ≤ gb1172));have n3_:=zA ((by rw [hg];exact (below_size HB.out) : w.heap.size ≤ gb1172));clear HB;have HB:=n0_;have BK1172:=n1_;have GW1172:=n2_;have GE1172:=n3_;clear n0_ n1_ n2_ n3_;clear hb hbox hg;have hcz18_0 : w17.cell? ⟨gb1172,0,none⟩ = some (.int .i32 a0_0):=(blk_cell BK1172.out 0).trans rfl;have hcz18_1 : w17.cell? ⟨gb1172,1,none⟩ = some (.int .u16 a0_1):=(blk_cell BK1172.out 1).trans rfl;have hcz18_2 : w17.cell? ⟨gb1172,2,none⟩ = some (.int .u8 a0_2):=(blk_cell BK1172.out 2).trans rfl;have hfz18_0:=blk_frozen BK1172.out 0;have hfz18_1:=blk_frozen BK1172.out 1;have hfz18_2:=blk_frozen BK1172.out 2)|((with_reducible refine zI (f:=48) rfl ?_);refine goesL_ (some 5) rfl rfl Try.func48 (by kernel_rfl) rfl #[.int .i32 a0_0] rfl (by (try simp only [zS,zT,zU]);rfl) ?_;(with_reducible refine (repriseref1_May.calls a0_0 true _ A2.out).mono ?_);rintro e w' ⟨rfl,⟨nd,rfl⟩⟩;refine ⟨_,rfl,?_⟩));go_ret;exact ⟨by rfl,by repeat ((with_reducible first|exact HB.out|apply pw_below_drewN))⟩
  ·rw [if_neg c4] at H;have c4b0 : decide (a0_1 < 4096) = false:=zD c4;clear c4;obtain rfl:=zY H;go_enter Try.func20,Try.ntmps20
   go_wp2_with (first|((with_reducible refine zG (N:=1) rfl ?_);refine box_event ?hg (N:=1) ?hd (cs:=#[.int .i32 a0_0,.int .u16 a0_1,.int .u8 a0_2]) (t:=35) ?hr ?_;(case hd=>rfl);(case hg=>rfl);(case hr=>(go_simp;done));intro gb1172 hg w19 hbox hb;have n0_:=zA (below_step HB.out hb);have n1_:=zA (hbox);have n2_:=zA ((by rw [hg];exact (below_size HB.out) : w.heap.size ≤ gb1172));have n3_:=zA ((by rw [hg];exact (below_size HB.out) : w.heap.size ≤ gb1172));clear HB;have HB:=n0_;have BK1172:=n1_;have GW1172:=n2_;have GE1172:=n3_;clear n0_ n1_ n2_ n3_;clear hb hbox hg;have hcz20_0 : w19.cell? ⟨gb1172,0,none⟩ = some (.int .i32 a0_0):=(blk_cell BK1172.out 0).trans rfl;have hcz20_1 : w19.cell? ⟨gb1172,1,none⟩ = some (.int .u16 a0_1):=(blk_cell BK1172.out 1).trans rfl;have hcz20_2 : w19.cell? ⟨gb1172,2,none⟩ = some (.int .u8 a0_2):=(blk_cell BK1172.out 2).trans rfl;have hfz20_0:=blk_frozen BK1172.out 0;have hfz20_1:=blk_frozen BK1172.out 1;have hfz20_2:=blk_frozen BK1172.out 2)|((with_reducible refine zI (f:=48) rfl ?_);refine goesL_ (some 5) rfl rfl Try.func48 (by kernel_rfl) rfl #[.int .i32 a0_0] rfl (by (try simp only [zS,zT,zU]);rfl) ?_;(with_reducible refine (repriseref1_May.calls a0_0 true _ A2.out).mono ?_);rintro e w' ⟨rfl,⟨nd,rfl⟩⟩;refine ⟨_,rfl,?_⟩));go_ret;exact ⟨by rfl,by repeat ((with_reducible first|exact HB.out|apply pw_below_drewN))⟩
 ·replace c3:=Bool.eq_false_iff.mpr c3;subst c3;have H1 : (some false) = some r:=by rw [if_neg (show ¬ (false = true) by decide)] at H;exact H
  clear H;have H:=H1;clear H1;obtain rfl:=zY H;go_enter Try.func20,Try.ntmps20
  go_wp2_with (first|((with_reducible refine zG (N:=1) rfl ?_);refine box_event ?hg (N:=1) ?hd (cs:=#[.int .i32 a0_0,.int .u16 a0_1,.int .u8 a0_2]) (t:=35) ?hr ?_;(case hd=>rfl);(case hg=>rfl);(case hr=>(go_simp;done));intro gb1172 hg w21 hbox hb;have n0_:=zA (below_step HB.out hb);have n1_:=zA (hbox);have n2_:=zA ((by rw [hg];exact (below_size HB.out) : w.heap.size ≤ gb1172));have n3_:=zA ((by rw [hg];exact (below_size HB.out) : w.heap.size ≤ gb1172));clear HB;have HB:=n0_;have BK1172:=n1_;have GW1172:=n2_;have GE1172:=n3_;clear n0_ n1_ n2_ n3_;clear hb hbox hg;have hcz22_0 : w21.cell? ⟨gb1172,0,none⟩ = some (.int .i32 a0_0):=(blk_cell BK1172.out 0).trans rfl;have hcz22_1 : w21.cell? ⟨gb1172,1,none⟩ = some (.int .u16 a0_1):=(blk_cell BK1172.out 1).trans rfl;have hcz22_2 : w21.cell? ⟨gb1172,2,none⟩ = some (.int .u8 a0_2):=(blk_cell BK1172.out 2).trans rfl;have hfz22_0:=blk_frozen BK1172.out 0;have hfz22_1:=blk_frozen BK1172.out 1;have hfz22_2:=blk_frozen BK1172.out 2)|((with_reducible refine zI (f:=48) rfl ?_);refine goesL_ (some 5) rfl rfl Try.func48 (by kernel_rfl) rfl #[.int .i32 a0_0] rfl (by (try simp only [zS,zT,zU]);rfl) ?_;(with_reducible refine (repriseref1_May.calls a0_0 false _ A2.out).mono ?_);rintro e w' ⟨rfl,⟨nd,rfl⟩⟩;refine ⟨_,rfl,?_⟩));go_ret;exact ⟨by rfl,by repeat ((with_reducible first|exact HB.out|apply pw_below_drewN))⟩
/-! ### repriseref1_Put: function 47 -/
def repriseref1_Put.l0 : Nat → Int → List Int → Option (List Int)
|0,_,_=>none
|k + 1,x0,x3=>if x0 ≥ 128 then (if x3.length < 140737488355328 then (repriseref1_Put.l0 k (x0 / 128) (x3 ++ [Go.bits .or .u8 ((x0) % 256) 128])) else (none)) else (if x3.length < 140737488355328 then (some (x3 ++ [(x0) % 256])) else (none))
def repriseref1_Put.f (k : Nat) (a0 : Int) : Option (List Int):=repriseref1_Put.l0 k a0 ([] : List Int)
theorem repriseref1_Put.mono_l : ∀ k,(∀ y0 y1,LeO (repriseref1_Put.l0 k y0 y1) (repriseref1_Put.l0 (k + 1) y0 y1))
|0=>fun _ _ r h=>by simp [repriseref1_Put.l0] at h
|k + 1=>by
  have ih0:=repriseref1_Put.mono_l k
  ·intro y0 y1;unfold repriseref1_Put.l0;repeat' first
  |(with_reducible exact ih0 _ _)
  |(with_reducible exact LeO.refl _)
  |(with_reducible exact LeO.none _)
  |(with_reducible refine LeO.ite ?_ ?_)
  |(with_reducible refine LeO.bind ?_ (fun _=>?_))
  |exact ih0 _ _
  |exact LeO.none _
  |refine LeO.ite ?_ ?_
  |refine LeO.bind ?_ (fun _=>?_)
theorem repriseref1_Put.mono : ∀ a0 k,LeO (repriseref1_Put.f k a0) (repriseref1_Put.f (k + 1) a0):=by
 intro a0 k;have ih0:=repriseref1_Put.mono_l k;unfold repriseref1_Put.f;repeat' first
 |(with_reducible exact ih0 _ _)
 |(with_reducible exact LeO.refl _)
 |(with_reducible exact LeO.none _)
 |(with_reducible refine LeO.ite ?_ ?_)
 |(with_reducible refine LeO.bind ?_ (fun _=>?_))
 |exact ih0 _ _
 |exact LeO.none _
 |refine LeO.ite ?_ ?_
 |refine LeO.bind ?_ (fun _=>?_)
set_option maxHeartbeats 8000000 in
set_option maxRecDepth 100000 in
theorem repriseref1_Put.calls (k : Nat) (a0 : Int) (r : List Int) (w : World) (h : repriseref1_Put.f k a0 = some r) :
 Calls Try.prog 47 #[.int .u64 a0] w fun e w'=>∃ v0_ : Value,e = .returned (v0_)∧Kd.R (Kd.int .u8) 5 w' w.heap.size (fun _=>True) v0_ r∧Below w.heap.size w w':=by
 have HB:=zA (zE w.heap.size w);have H : (repriseref1_Put.l0 k a0 ([] : List Int)) = some r:=h;clear h;have H':=zA H;clear H;go_enter Try.func47,Try.ntmps47
 go_wp2;go_loopg [0,3] k (fun kq v0 v3 w'=>∃ (x0_1 : Int) (x3_1 : List Int),v0 = .int .u64 x0_1∧Aside0 (repriseref1_Put.l0 kq x0_1 x3_1 = some r)∧Aside0 (kq ≤ k)∧Aside0 (Kd.R (Kd.int .u8) 5 w' w.heap.size (fun _=>True) v3 x3_1)∧Aside0 (Below w.heap.size w w'))
 case atStart=>exact ⟨(a0),(([] : List Int)),(by rfl),H',⟨Nat.le_refl _⟩,⟨by exact Kd.R_nil _ _ _ _ _⟩,⟨HB.out⟩⟩
 case round =>
  clear H';obtain ⟨x0_1,x3_1,rfl,HA,HK1,HO_3,HB⟩:=hrel;cases gk with
 |zero=>exact absurd HA.out (by simp [repriseref1_Put.l0])
 |succ k1 =>
   have H:=HA.out;clear HA;simp only [repriseref1_Put.l0] at H;by_cases c2 : x0_1 ≥ 128
   ·rw [if_pos c2] at H;have c2b0 : decide (128 ≤ x0_1) = true:=zC c2;clear c2;by_cases c3 : x3_1.length < 140737488355328
    ·rw [if_pos c3] at H;have LMc3:=zA c3;clear c3;obtain ⟨y1174,hy1174⟩ : ∃ y_ : List Int,y_ = (x3_1 ++ [Go.bits .or .u8 ((x0_1) % 256) 128]):=⟨_,rfl⟩;replace H : (repriseref1_Put.l0 k1 (x0_1 / 128) y1174) = some r:=by (rw [hy1174];with_reducible exact H)
     have Ny1174:=zA hy1174;clear hy1174;have H':=zA H;clear H;go_wp2_with (((with_reducible refine gate_builtin (b:=.append) (xs:=#[.tmp 6,.tmp 10]) rfl ?_);at_builtin;refine Kd.R_append (Kd.int .u8) (w0:=w) w.heap.size rfl (.tmp 6) (.tmp 10) 22 5 (.int .u8 0) 1 rfl Try.underlying22 info5 rfl (by decide) (by omega) u3 x3_1 (Go.bits .or .u8 ((x0_1) % 256) 128) [.int .u8 (Go.bits .or .u8 ((x0_1) % 256) 128)] (fun _=>True) (fun _=>False) rfl rfl ?aP (fun _ hk=>hk.elim) ?aF ?aO ?aB ?aS ?aL ?_;(case aP=>exact rfl);(case aB=>exact HB.out);(case aF=>exact (fun _ _=>trivial));(case aO=>exact HO_3.out);(case aS=>exact (below_size HB.out));(case aL=>have:=LMc3.out;omega);intro v1175 w4 ho hb hg hat;rw [← Ny1174.out] at ho;have n0_:=zA (hb);have n1_:=zA (ho);clear HB;clear HO_3;have HB:=n0_;have HO1176:=n1_;clear n0_ n1_;clear ho hb hg hat));go_roundg k1
     case measure=>have:=HK1.out;omega
     case rel=>exact ⟨(x0_1 / 128),(y1174),(by rfl),H',⟨by have:=HK1.out;omega⟩,⟨HO1176.out⟩,⟨HB.out⟩⟩
    ·rw [if_neg c3] at H;exact absurd H (by simp)
   ·rw [if_neg c2] at H;have c2b0 : decide (128 ≤ x0_1) = false:=zD c2;clear c2;by_cases c5 : x3_1.length < 140737488355328
    ·rw [if_pos c5] at H;have LMc5:=zA c5;clear c5;obtain ⟨y1177,hy1177⟩ : ∃ y_ : List Int,y_ = (x3_1 ++ [(x0_1) % 256]):=⟨_,rfl⟩;replace H : (some y1177) = some r:=by (rw [hy1177];with_reducible exact H)
     have Ny1177:=zA hy1177;clear hy1177;obtain rfl:=zY H;go_wp2_with (((with_reducible refine gate_builtin (b:=.append) (xs:=#[.tmp 14,.tmp 17]) rfl ?_);at_builtin;refine Kd.R_append (Kd.int .u8) (w0:=w) w.heap.size rfl (.tmp 14) (.tmp 17) 22 5 (.int .u8 0) 1 rfl Try.underlying22 info5 rfl (by decide) (by omega) u3 x3_1 ((x0_1) % 256) [.int .u8 ((x0_1) % 256)] (fun _=>True) (fun _=>False) rfl rfl ?aP (fun _ hk=>hk.elim) ?aF ?aO ?aB ?aS ?aL ?_;(case aP=>exact rfl);(case aB=>exact HB.out);(case aF=>exact (fun _ _=>trivial));(case aO=>exact HO_3.out);(case aS=>exact (below_size HB.out));(case aL=>have:=LMc5.out;omega);intro v1178 w6 ho hb hg hat;rw [← Ny1177.out] at ho;have n0_:=zA (hb);have n1_:=zA (ho);clear HB;clear HO_3;have HB:=n0_;have HO1179:=n1_;clear n0_ n1_;clear ho hb hg hat));go_ret;exact ⟨_,by rfl,HO1179.out,HB.out⟩
    ·rw [if_neg c5] at H;exact absurd H (by simp)
/-! ### repriseref1_Read: function 50 -/
mutual
def repriseref1_Read.l0 : Nat → List Int → Int → Int → Option (Int × Int × Int)
|0,_,_,_=>none
|k + 1,x0,x5,x6=>if x6 < (x0.length : Int) then (if x6 = 9 then (if 0 ≤ x6 then (repriseref1_Read.j1 k x0 x5 x6 (decide ((rd x0 x6) > 1))) else (none)) else (repriseref1_Read.j1 k x0 x5 x6 false)) else (some (0,0,22))
def repriseref1_Read.j1 : Nat → List Int → Int → Int → Bool → Option (Int × Int × Int)
|0,_,_,_,_=>none
|k + 1,x0,x5,x6,x21=>if x21 = true then (some (0,0,21)) else (if 0 ≤ x6 then (if x6 < (x0.length : Int) then (if 0 ≤ (wrap64 (7 * x6)) then (if (rd x0 x6) < 128 then (if x6 > 0 then (if (rd x0 x6) = 0 then (some (0,0,21)) else (some (Go.bits .or .u64 x5 (shl .u64 (IntKind.u64.wrap (Go.bits .and .u8 (rd x0 x6) 127)) (wrap64 (7 * x6))),wrap64 (x6 + 1),0))) else (some (Go.bits .or .u64 x5 (shl .u64 (IntKind.u64.wrap (Go.bits .and .u8 (rd x0 x6) 127)) (wrap64 (7 * x6))),wrap64 (x6 + 1),0))) else (repriseref1_Read.l0 k x0 (Go.bits .or .u64 x5 (shl .u64 (IntKind.u64.wrap (Go.bits .and .u8 (rd x0 x6) 127)) (wrap64 (7 * x6)))) (wrap64 (x6 + 1)))) else (none)) else (none)) else (none))
end
def repriseref1_Read.f (k : Nat) (l0 : List Int) : Option (Int × Int × Int):=repriseref1_Read.l0 k l0 0 0
theorem repriseref1_Read.mono_l : ∀ k,(∀ y0 y1 y2,LeO (repriseref1_Read.l0 k y0 y1 y2) (repriseref1_Read.l0 (k + 1) y0 y1 y2))∧(∀ y0 y1 y2 y3,LeO (repriseref1_Read.j1 k y0 y1 y2 y3) (repriseref1_Read.j1 (k + 1) y0 y1 y2 y3))
|0=>⟨fun _ _ _ r h=>by simp [repriseref1_Read.l0] at h,fun _ _ _ _ r h=>by simp [repriseref1_Read.j1] at h⟩
|k + 1=>by
  obtain ⟨ih0,ih1⟩:=repriseref1_Read.mono_l k;refine ⟨?_,?_⟩
  ·intro y0 y1 y2;unfold repriseref1_Read.l0;repeat' first
  |(with_reducible exact ih0 _ _ _)
  |(with_reducible exact ih1 _ _ _ _)
  |(with_reducible exact LeO.refl _)
  |(with_reducible exact LeO.none _)
  |(with_reducible refine LeO.ite ?_ ?_)
  |(with_reducible refine LeO.bind ?_ (fun _=>?_))
  |exact ih0 _ _ _
  |exact ih1 _ _ _ _
  |exact LeO.none _
  |refine LeO.ite ?_ ?_
  |refine LeO.bind ?_ (fun _=>?_)
  ·intro y0 y1 y2 y3;unfold repriseref1_Read.j1;repeat' first
  |(with_reducible exact ih0 _ _ _)
  |(with_reducible exact ih1 _ _ _ _)
  |(with_reducible exact LeO.refl _)
  |(with_reducible exact LeO.none _)
  |(with_reducible refine LeO.ite ?_ ?_)
  |(with_reducible refine LeO.bind ?_ (fun _=>?_))
  |exact ih0 _ _ _
  |exact ih1 _ _ _ _
  |exact LeO.none _
  |refine LeO.ite ?_ ?_
  |refine LeO.bind ?_ (fun _=>?_)
theorem repriseref1_Read.mono : ∀ a0 k,LeO (repriseref1_Read.f k a0) (repriseref1_Read.f (k + 1) a0):=by
 intro a0 k;obtain ⟨ih0,ih1⟩:=repriseref1_Read.mono_l k;unfold repriseref1_Read.f;repeat' first
 |(with_reducible exact ih0 _ _ _)
 |(with_reducible exact ih1 _ _ _ _)
 |(with_reducible exact LeO.refl _)
 |(with_reducible exact LeO.none _)
 |(with_reducible refine LeO.ite ?_ ?_)
 |(with_reducible refine LeO.bind ?_ (fun _=>?_))
 |exact ih0 _ _ _
 |exact ih1 _ _ _ _
 |exact LeO.none _
 |refine LeO.ite ?_ ?_
 |refine LeO.bind ?_ (fun _=>?_)
set_option maxHeartbeats 8000000 in
set_option maxRecDepth 100000 in
theorem repriseref1_Read.calls (k : Nat) (A0 : Option Addr) (c0 : Nat) (l0 : List Int) (r1 : Int) (r2 : Int) (r3 : Int) (w : World) (hr0 : Kd.C (Kd.int .u8) w A0 l0.length l0) (hc0 : l0.length ≤ c0) (h : repriseref1_Read.f k l0 = some (r1,r2,r3)) :
 Calls Try.prog 50 #[.slice A0 l0.length c0] w fun e w'=>e = .returned (.tuple #[.int .u64 r1,.int .i64 r2,.int .i64 r3])∧Drawn0 w w':=by
 have HR0:=zA hr0;have HC0:=zA hc0;clear hr0 hc0;have H : (repriseref1_Read.l0 k l0 0 0) = some (r1,r2,r3):=h;clear h;have H':=zA H;clear H;go_enter Try.func50,Try.ntmps50
 go_wp2;go_loopg [5,6] k (fun kq v5 v6 w'=>∃ (x5_1 : Int) (x6_1 : Int),v5 = .int .u64 x5_1∧v6 = .int .i64 x6_1∧Aside0 (repriseref1_Read.l0 kq l0 x5_1 x6_1 = some (r1,r2,r3))∧Aside0 (kq ≤ k)∧Drawn0 w w')
 case atStart=>exact ⟨(0),(0),(by rfl),(by rfl),H',⟨Nat.le_refl _⟩,by exact Drawn0.refl _⟩
 case round =>
  clear H';obtain ⟨x5_1,x6_1,rfl,rfl,HA,HK1,⟨m1,rfl⟩⟩:=hrel;cases gk with
 |zero=>exact absurd HA.out (by simp [repriseref1_Read.l0])
 |succ k1 =>
   have H:=HA.out;clear HA;simp only [repriseref1_Read.l0] at H;by_cases c2 : x6_1 < (l0.length : Int)
   ·rw [if_pos c2] at H;have c2b0 : decide (x6_1 < (l0.length : Int)) = true:=zC c2;clear c2;have HC3:=zA H;clear H;go_upto_region 5 with (fail)
    go_cut [21] (fun v21 wc=>∃ (kq : Nat) (x21_2 : Bool),v21 = .bool x21_2∧Aside0 (repriseref1_Read.j1 kq l0 x5_1 x6_1 x21_2 = some (r1,r2,r3))∧Aside0 (kq ≤ k1)∧Drawn0 w wc)
    case first =>
     have H:=HC3.out;clear HC3;by_cases c4 : x6_1 = 9
     ·rw [if_pos c4] at H;have c4b0 : (x6_1 == 9) = true:=beq_iff_eq.mpr c4;have c4b1 : (x6_1 != 9) = false:=bne_eq_false_iff_eq.mpr c4;clear c4;by_cases c5 : 0 ≤ x6_1
      ·rw [if_pos c5] at H;have c5b0 : decide (0 ≤ x6_1) = true:=zC c5;clear c5;have H':=zA H;clear H;have p1226 : 0 ≤ (x6_1 : Int):=od;have q1226 : x6_1 < (l0.length : Int):=od;obtain ⟨ad1226,e1226,hx1226_0⟩:=Kd.at_int HR0.out x6_1 p1226 q1226;cases e1226;replace p1226:=eq_true p1226;replace q1226:=eq_true q1226;go_wp2;go_meet
       case rel=>exact ⟨_,(decide ((rd l0 x6_1) > 1)),(by rfl),H',⟨by have:=HK1.out;omega⟩,by repeat (first|exact Drawn0.refl _|apply Drawn0.step)⟩
      ·rw [if_neg c5] at H;exact absurd H (by simp)
     ·rw [if_neg c4] at H;have c4b0 : (x6_1 == 9) = false:=beq_eq_false_iff_ne.mpr c4;have c4b1 : (x6_1 != 9) = true:=bne_iff_ne.mpr c4;have H':=zA H;clear H;go_wp2;go_meet
      case rel=>exact ⟨_,(false),(by rfl),H',⟨by have:=HK1.out;omega⟩,by repeat (first|exact Drawn0.refl _|apply Drawn0.step)⟩
    case rest =>
     clear HC3;(try clear p1);(try clear q1);(try clear hx1);(try clear c2);(try clear c2b0);(try clear p2);(try clear c4);(try clear c4b0);(try clear c4b1);(try clear c5);(try clear c5b0);(try clear hx1226_0);(try clear p1226);(try clear q1226);obtain ⟨kq,x21_2,rfl,HA,HJ2,⟨mc2,rfl⟩⟩:=hcut;cases kq with
    |zero=>exact absurd HA.out (by simp [repriseref1_Read.j1])
    |succ kj2 =>
      have H:=HA.out;clear HA;simp only [repriseref1_Read.j1] at H;by_cases c6 : x21_2 = true
      ·subst c6;have H1 : (some (0,0,21)) = some (r1,r2,r3):=by rw [if_pos rfl] at H;exact H
       clear H;have H:=H1;clear H1;simp only [Option.some.injEq,Prod.mk.injEq] at H;obtain ⟨rfl,rfl,rfl⟩:=H;go_wp2;go_ret3;exact ⟨by rfl,by repeat (first|exact Drawn0.refl _|apply Drawn0.step)⟩
      ·replace c6:=Bool.eq_false_iff.mpr c6;subst c6;have H1 : (if 0 ≤ x6_1 then (if x6_1 < (l0.length : Int) then (if 0 ≤ (wrap64 (7 * x6_1)) then (if (rd l0 x6_1) < 128 then (if x6_1 > 0 then (if (rd l0 x6_1) = 0 then (some (0,0,21)) else (some (Go.bits .or .u64 x5_1 (shl .u64 (IntKind.u64.wrap (Go.bits .and .u8 (rd l0 x6_1) 127)) (wrap64 (7 * x6_1))),wrap64 (x6_1 + 1),0))) else (some (Go.bits .or .u64 x5_1 (shl .u64 (IntKind.u64.wrap (Go.bits .and .u8 (rd l0 x6_1) 127)) (wrap64 (7 * x6_1))),wrap64 (x6_1 + 1),0))) else (repriseref1_Read.l0 kj2 l0 (Go.bits .or .u64 x5_1 (shl .u64 (IntKind.u64.wrap (Go.bits .and .u8 (rd l0 x6_1) 127)) (wrap64 (7 * x6_1)))) (wrap64 (x6_1 + 1)))) else (none)) else (none)) else (none)) = some (r1,r2,r3):=by rw [if_neg (show ¬ (false = true) by decide)] at H;exact H
       clear H;have H:=H1;clear H1;by_cases c7 : 0 ≤ x6_1
       ·rw [if_pos c7] at H;have c7b0 : decide (0 ≤ x6_1) = true:=zC c7;clear c7;by_cases c8 : x6_1 < (l0.length : Int)
        ·rw [if_pos c8] at H;have c8b0 : decide (x6_1 < (l0.length : Int)) = true:=zC c8;clear c8;obtain ⟨ji9,hji9⟩ : ∃ j_ : Int,(wrap64 (7 * x6_1)) = j_:=⟨_,rfl⟩;replace H : (if 0 ≤ (ji9) then (if (rd l0 x6_1) < 128 then (if x6_1 > 0 then (if (rd l0 x6_1) = 0 then (some (0,0,21)) else (some (Go.bits .or .u64 x5_1 (shl .u64 (IntKind.u64.wrap (Go.bits .and .u8 (rd l0 x6_1) 127)) (ji9)),wrap64 (x6_1 + 1),0))) else (some (Go.bits .or .u64 x5_1 (shl .u64 (IntKind.u64.wrap (Go.bits .and .u8 (rd l0 x6_1) 127)) (ji9)),wrap64 (x6_1 + 1),0))) else (repriseref1_Read.l0 kj2 l0 (Go.bits .or .u64 x5_1 (shl .u64 (IntKind.u64.wrap (Go.bits .and .u8 (rd l0 x6_1) 127)) (ji9))) (wrap64 (x6_1 + 1)))) else (none)) = some (r1,r2,r3):=by (rw [hji9] at H;exact H)
         have hji9w : (IntKind.i64.wrap (7 * x6_1)) = ji9:=(i64_w _).trans hji9;by_cases c10 : 0 ≤ (ji9)
         ·rw [if_pos c10] at H;have c10b0:=eq_true c10;have c10b1 : decide (0 ≤ (ji9)) = true:=zC c10;clear c10;obtain ⟨ji11,hji11⟩ : ∃ j_ : Int,(shl .u64 (IntKind.u64.wrap (Go.bits .and .u8 (rd l0 x6_1) 127)) (ji9)) = j_:=⟨_,rfl⟩;replace H : (if (rd l0 x6_1) < 128 then (if x6_1 > 0 then (if (rd l0 x6_1) = 0 then (some (0,0,21)) else (some (Go.bits .or .u64 x5_1 (ji11),wrap64 (x6_1 + 1),0))) else (some (Go.bits .or .u64 x5_1 (ji11),wrap64 (x6_1 + 1),0))) else (repriseref1_Read.l0 kj2 l0 (Go.bits .or .u64 x5_1 (ji11)) (wrap64 (x6_1 + 1)))) = some (r1,r2,r3):=by (rw [hji11] at H;exact H)
          have hji11_ : (IntKind.u64.wrap ((IntKind.u64.wrap (Go.bits .and .u8 (rd l0 x6_1) 127)) * 2 ^ min (ji9).toNat 64)) = ji11:=hji11;have hji11z : (ji9) ≤ 64 → (IntKind.u64.wrap ((IntKind.u64.wrap (Go.bits .and .u8 (rd l0 x6_1) 127)) * 2 ^ (ji9).toNat)) = ji11:=shl_small hji11;by_cases c12 : (rd l0 x6_1) < 128
          ·rw [if_pos c12] at H;have c12b0 : decide ((rd l0 x6_1) < 128) = true:=zC c12;clear c12;by_cases c13 : x6_1 > 0
           ·rw [if_pos c13] at H;have c13b0 : decide (0 < x6_1) = true:=zC c13;clear c13;by_cases c14 : (rd l0 x6_1) = 0
            ·rw [if_pos c14] at H;have c14b0 : ((rd l0 x6_1) == 0) = true:=beq_iff_eq.mpr c14;have c14b1 : ((rd l0 x6_1) != 0) = false:=bne_eq_false_iff_eq.mpr c14;clear c14;simp only [Option.some.injEq,Prod.mk.injEq] at H;obtain ⟨rfl,rfl,rfl⟩:=H;have p1227 : 0 ≤ (x6_1 : Int):=od;have q1227 : x6_1 < (l0.length : Int):=od;obtain ⟨ad1227,e1227,hx1227_0⟩:=Kd.at_int HR0.out x6_1 p1227 q1227;cases e1227;replace p1227:=eq_true p1227;replace q1227:=eq_true q1227;have p1228 : 0 ≤ (x6_1 : Int):=od;have q1228 : x6_1 < (l0.length : Int):=od;obtain ⟨ad1228,e1228,hx1228_0⟩:=Kd.at_int HR0.out x6_1 p1228 q1228;obtain rfl : ad1227 = ad1228:=(by injection e1228);replace p1228:=eq_true p1228;replace q1228:=eq_true q1228;have p1229 : 0 ≤ (x6_1 : Int):=od;have q1229 : x6_1 < (l0.length : Int):=od;obtain ⟨ad1229,e1229,hx1229_0⟩:=Kd.at_int HR0.out x6_1 p1229 q1229;obtain rfl : ad1227 = ad1229:=(by injection e1229);replace p1229:=eq_true p1229;replace q1229:=eq_true q1229;go_wp2;go_ret3;exact ⟨by rfl,by repeat (first|exact Drawn0.refl _|apply Drawn0.step)⟩
            ·rw [if_neg c14] at H;have c14b0 : ((rd l0 x6_1) == 0) = false:=beq_eq_false_iff_ne.mpr c14;have c14b1 : ((rd l0 x6_1) != 0) = true:=bne_iff_ne.mpr c14;simp only [Option.some.injEq,Prod.mk.injEq] at H;obtain ⟨rfl,rfl,rfl⟩:=H;have p1227 : 0 ≤ (x6_1 : Int):=od;have q1227 : x6_1 < (l0.length : Int):=od;obtain ⟨ad1227,e1227,hx1227_0⟩:=Kd.at_int HR0.out x6_1 p1227 q1227;cases e1227;replace p1227:=eq_true p1227;replace q1227:=eq_true q1227;have p1228 : 0 ≤ (x6_1 : Int):=od;have q1228 : x6_1 < (l0.length : Int):=od;obtain ⟨ad1228,e1228,hx1228_0⟩:=Kd.at_int HR0.out x6_1 p1228 q1228;obtain rfl : ad1227 = ad1228:=(by injection e1228);replace p1228:=eq_true p1228;replace q1228:=eq_true q1228;have p1229 : 0 ≤ (x6_1 : Int):=od;have q1229 : x6_1 < (l0.length : Int):=od;obtain ⟨ad1229,e1229,hx1229_0⟩:=Kd.at_int HR0.out x6_1 p1229 q1229;obtain rfl : ad1227 = ad1229:=(by injection e1229);replace p1229:=eq_true p1229;replace q1229:=eq_true q1229;go_wp2;go_ret3;exact ⟨by rfl,by repeat (first|exact Drawn0.refl _|apply Drawn0.step)⟩
           ·rw [if_neg c13] at H;have c13b0 : decide (0 < x6_1) = false:=zD c13;clear c13;simp only [Option.some.injEq,Prod.mk.injEq] at H;obtain ⟨rfl,rfl,rfl⟩:=H;have p1227 : 0 ≤ (x6_1 : Int):=od;have q1227 : x6_1 < (l0.length : Int):=od;obtain ⟨ad1227,e1227,hx1227_0⟩:=Kd.at_int HR0.out x6_1 p1227 q1227;cases e1227;replace p1227:=eq_true p1227;replace q1227:=eq_true q1227;have p1228 : 0 ≤ (x6_1 : Int):=od;have q1228 : x6_1 < (l0.length : Int):=od;obtain ⟨ad1228,e1228,hx1228_0⟩:=Kd.at_int HR0.out x6_1 p1228 q1228;obtain rfl : ad1227 = ad1228:=(by injection e1228);replace p1228:=eq_true p1228;replace q1228:=eq_true q1228;go_wp2;go_ret3;exact ⟨by rfl,by repeat (first|exact Drawn0.refl _|apply Drawn0.step)⟩
          ·rw [if_neg c12] at H;have c12b0 : decide ((rd l0 x6_1) < 128) = false:=zD c12;clear c12;have H':=zA H;clear H;have p1227 : 0 ≤ (x6_1 : Int):=od;have q1227 : x6_1 < (l0.length : Int):=od;obtain ⟨ad1227,e1227,hx1227_0⟩:=Kd.at_int HR0.out x6_1 p1227 q1227;cases e1227;replace p1227:=eq_true p1227;replace q1227:=eq_true q1227;have p1228 : 0 ≤ (x6_1 : Int):=od;have q1228 : x6_1 < (l0.length : Int):=od;obtain ⟨ad1228,e1228,hx1228_0⟩:=Kd.at_int HR0.out x6_1 p1228 q1228;obtain rfl : ad1227 = ad1228:=(by injection e1228);replace p1228:=eq_true p1228;replace q1228:=eq_true q1228;go_wp2;go_roundg kj2
           case measure=>have:=HK1.out;have:=HJ2.out;omega
           case rel=>exact ⟨(Go.bits .or .u64 x5_1 (ji11)),(wrap64 (x6_1 + 1)),(by rfl),(by rfl),H',⟨by have:=HK1.out;have:=HJ2.out;omega⟩,by repeat (first|exact Drawn0.refl _|apply Drawn0.step)⟩
         ·rw [if_neg c10] at H;exact absurd H (by simp)
        ·rw [if_neg c8] at H;exact absurd H (by simp)
       ·rw [if_neg c7] at H;exact absurd H (by simp)
   ·rw [if_neg c2] at H;have c2b0 : decide (x6_1 < (l0.length : Int)) = false:=zD c2;clear c2;simp only [Option.some.injEq,Prod.mk.injEq] at H;obtain ⟨rfl,rfl,rfl⟩:=H;go_wp2;go_ret3;exact ⟨by rfl,by repeat (first|exact Drawn0.refl _|apply Drawn0.step)⟩
-- NOT PRINTED: function 22 (repriseref5_ReadCells)
-- NOT PRINTED: function 5 (repriselaw6_RunsTell)
end Go.Proofs.Ytooageeehallbaa.QRunsCut
namespace Go.Proofs.Ytooageeehallbaa
open Go Go.RowKit Go.Proofs.YtooageeehallbaaW.PrintWords Go.Proofs.YtooageeehallbaaW.PrintLast Go.Proofs.YtooageeehallbaaW.PrintMore
abbrev zB := @cell_of_row
end Go.Proofs.Ytooageeehallbaa
namespace Go.Proofs.Ytooageeehallbaa.Scr
open Go.RowKit Go.Proofs.YtooageeehallbaaW.PrintWords Go.Proofs.YtooageeehallbaaW.PrintLast Go.Proofs.YtooageeehallbaaW.PrintMore
set_option linter.unusedVariables false
set_option linter.unusedSimpArgs false
/-- Footprint facts: moved,widened,bounded. -/
structure Mvb (F : World → (Nat → Prop) → Prop) : Prop where
 step : ∀ {W w1 : World} {ok : Nat → Prop},F W ok → (∀ k,ok k → k < W.heap.size → w1.heap[k]? = W.heap[k]?) → F w1 ok
 mono : ∀ {W : World} {ok ok' : Nat → Prop},F W ok → (∀ k,ok k → ok' k) → F W ok'
 bound : ∀ {W : World} {ok : Nat → Prop},F W ok → F W (fun k=>ok k∧k < W.heap.size)
def Nb (ok : Nat → Prop) (n : Nat) (gs : List Nat) : Nat → Prop:=fun k=>(ok k∨n ≤ k)∧k ∉ gs
theorem nb_ne {ok : Nat → Prop} {n k g : Nat} {gs : List Nat} (h : Nb ok n gs k) (hm : g ∈ gs) : some k ≠ some g:=by
 intro e;injection e with e
 subst e;exact h.2 hm
section
variable {F : World → (Nat → Prop) → Prop} {W w1 w0 : World} {ok ok' : Nat → Prop} {n g t : Nat} {gs : List Nat} {cs : Array Value}
structure Bx (n : Nat) (t : TypeId) (g : Nat) (W : World) (cs : Array Value) : Prop where
 hg : n ≤ g
 bx : W.heap[g]? = some (.cells cs t (0,0))
theorem Bx.lt (b : Bx n t g W cs) : g < W.heap.size:=(Array.getElem?_eq_some_iff.1 b.bx).1
theorem Mvb.grown (m : Mvb F) (h : F W (Nb ok n gs)) (hg : W.grownBy w1 (some g)) (hm : g ∈ gs) : F w1 (Nb ok n gs):=m.step h (fun k hk hlt=>hg.block k hlt (nb_ne hk hm))
theorem Mvb.call (m : Mvb F) (h : F W ok) (hb : Below W.heap.size W w1) : F w1 ok:=m.step h (fun k _ hlt=>hb.block k hlt)
/-- A new block. -/
theorem Mvb.fresh (m : Mvb F) (h : F W (Nb ok n gs)) (hN : W.heap.size = g) (hg : W.grownBy w1 none) : F w1 (Nb ok n (g :: gs)) :=
 m.mono (m.step (m.bound h) (fun k _ hlt=>hg.block k hlt (by simp))) (fun k hk=>⟨hk.1.1,by
  intro hm;rcases List.mem_cons.1 hm with he|hm
  ·have:=hk.2;omega
  ·exact hk.1.2 hm⟩)
theorem Mvb.drop (m : Mvb F) (h : F W (Nb ok n (g :: gs))) : F W (Nb ok n gs):=m.mono h (fun k hk=>⟨hk.1,fun hm=>hk.2 (List.mem_cons_of_mem _ hm)⟩)
theorem Mvb.enter (m : Mvb F) (h : F W ok) (hn : W.heap.size = n) : F W (Nb ok n []):=m.mono h (fun k hk=>⟨.inl hk,by simp⟩)
/-- What a call handed back: its blocks are elder ones of ours,or new. -/
theorem Mvb.back (m : Mvb F) (h : F w1 (fun k=>Nb ok n gs k∨W.heap.size ≤ k)) (hn : n ≤ W.heap.size) (hgs : ∀ g,g ∈ gs → g < W.heap.size) : F w1 (Nb ok n gs) :=
 m.mono h (fun k hk=>by
  rcases hk with hk|hk
  ·exact hk
  ·exact ⟨.inr (by omega),fun hm=>by have:=hgs k hm;omega⟩)
theorem Mvb.new (m : Mvb F) (h : F w1 (fun k=>W.heap.size ≤ k)) (hn : n ≤ W.heap.size) (hgs : ∀ g,g ∈ gs → g < W.heap.size) : F w1 (Nb ok n gs) :=
 m.back (ok:=ok) (n:=n) (gs:=gs) (m.mono h (fun k hk=>.inr hk)) hn hgs
theorem Mvb.out (m : Mvb F) (h : F W (Nb ok n gs)) : F W (fun k=>ok k∨n ≤ k):=m.mono h (fun _ hk=>hk.1)
theorem bx_far {g' t' : Nat} {cs' : Array Value} (b : Bx n t' g' W cs') (hg : W.grownBy w1 (some g)) (hne : g' ≠ g) : Bx n t' g' w1 cs' :=
 ⟨b.hg,(hg.block g' b.lt (by intro e;injection e with e;exact hne e)).trans b.bx⟩
theorem bx_kept (b : Bx n t g W cs) {row : Option Nat} (hg : W.grownBy w1 row) (hne : some g ≠ row) : Bx n t g w1 cs:=⟨b.hg,(hg.block g b.lt hne).trans b.bx⟩
theorem bx_new (b : Bx n t g W cs) (hg : W.grownBy w1 none) : Bx n t g w1 cs:=⟨b.hg,(hg.block g b.lt (by simp)).trans b.bx⟩
theorem bx_call (b : Bx n t g W cs) (hb : Below W.heap.size W w1) : Bx n t g w1 cs:=⟨b.hg,(hb.block g b.lt).trans b.bx⟩
theorem hb_grown (hb : Below n w0 W) (b : Bx n t g W cs) (hg : W.grownBy w1 (some g)) : Below n w0 w1 :=
 hb.grown hg (Nat.le_trans b.hg (Nat.le_of_lt b.lt)) (by rintro k h;injection h with h;subst h;exact b.hg)
theorem hb_new (hb : Below n w0 W) (hn : n ≤ W.heap.size) (hg : W.grownBy w1 none) : Below n w0 w1:=hb.grown hg hn (by simp)
theorem hb_call (hb : Below n w0 W) (hn : n ≤ W.heap.size) (hc : Below W.heap.size W w1) : Below n w0 w1:=hb.trans (hc.mono hn)
end
section
variable {P : Program} {ops : Array Oper} {rest : List Oper} {o : Oper} {a : Act} {W : World} {Q : Exit → Act → World → Prop} {n g : Nat} {cs : Array Value} {t : TypeId}
theorem grown_alloc (W : World) (ob : Obj) : W.grownBy (W.alloc ob) none:=⟨rfl,rfl,rfl,by simp,fun k hk _=>Below.heap_alloc _ _ _ hk⟩
theorem bx_box (hgd : o.guard = none) {N : Tmp} (hd : o.dst = some N) {x : Operand} (ho : o.op = .box t x) {cs : Array Value} (hx : a.eval x = .agg cs) (hn : n ≤ W.heap.size)
 (h : ∀ g w1,W.heap.size = g → W.grownBy w1 none → Bx n t g w1 cs → wpList P ops Q rest (a.put (some N) (.pointer (some ⟨g,0,none⟩))) w1) : wpList P ops Q (o :: rest) a W:=by
 refine wpList_plain hgd fun K hK=>?_
 unfold Oper.wp execOp;simp only [ho,hx,Sem.run_bind,Instr.box,newVar,newRow,run_newObj_alloc,Sem.run_pure,Result.andThen_ok];refine hK _ _ (hd ▸ h W.heap.size _ rfl (grown_alloc W _) ⟨hn,?_⟩);exact heap_alloc_new W _
theorem bx_alloc (hgd : o.guard = none) {N : Tmp} (hd : o.dst = some N) (ho : o.op = .alloc t) {cs : Array Value} (hz : (P.info? t).map (·.zero) = some (some (.agg cs))) (hn : n ≤ W.heap.size)
 (h : ∀ g w1,W.heap.size = g → W.grownBy w1 none → Bx n t g w1 cs → wpList P ops Q rest (a.put (some N) (.pointer (some ⟨g,0,none⟩))) w1) : wpList P ops Q (o :: rest) a W:=by
 refine wpList_plain hgd fun K hK=>?_
 cases hq : P.info? t with
|none=>simp [hq] at hz
|some i =>
  have hi : i.zero = some (.agg cs):=by simpa [hq] using hz
  unfold Oper.wp execOp;simp only [ho,Sem.run_bind,Instr.alloc,zeroValue,typeInfo,hq,hi,run_program,newVar,newRow,run_newObj_alloc,Sem.run_pure,Result.andThen_ok];refine hK _ _ (hd ▸ h W.heap.size _ rfl (grown_alloc W _) ⟨hn,?_⟩);exact heap_alloc_new W _
theorem bx_get (b : Bx n t g W cs) (hgd : o.guard = none) {N : Tmp} (hd : o.dst = some N) {ty : TypeId} {x : Operand} (ho : o.op = .load ty x) {j : Nat} (hx : a.eval x = .pointer (some ⟨g,j,none⟩))
 {d : TypeDesc} (hu : P.underlying ty = some d) (hty : (match d with|.struct _|.array _ _=>true|_=>false) = false) {v : Value} (hv : cs[j]? = some v)
 (h : wpList P ops Q rest (a.put (some N) v) W) : wpList P ops Q (o :: rest) a W:=by
 refine wpList_plain hgd fun K hK=>?_
 have hc : W.cell? ⟨g,j,none⟩ = some v:=(zB W g j cs t (0,0) b.bx).trans hv;have hagg : (isAgg ty).run P W = .ok false W:=by
  unfold isAgg;rw [Sem.run_bind,run_underlying hu W];cases d <;> simp_all
 unfold Oper.wp execOp;simp only [ho,hx,Instr.loadAt,Instr.sureAddr,loadVar,Sem.run_bind,Sem.run_pure,Result.andThen_ok,hagg,Bool.false_eq_true,if_false,run_load,hc];exact hK _ _ (hd ▸ h)
theorem bx_load (b : Bx n t g W cs) (hgd : o.guard = none) {N : Tmp} (hd : o.dst = some N) {ty : TypeId} {x : Operand} (ho : o.op = .load ty x) (hx : a.eval x = .pointer (some ⟨g,0,none⟩))
 {d : TypeDesc} (hu : P.underlying ty = some d) (hty : (match d with|.struct _|.array _ _=>true|_=>false) = true) (hi : (P.info? ty).map (·.size) = some cs.size)
 (h : wpList P ops Q rest (a.put (some N) (.agg cs)) W) : wpList P ops Q (o :: rest) a W :=
 wpList_load_row hgd ty x ho g hx t cs (0,0) d b.bx hu hty hi (hd ▸ h)
theorem grown_setRow (W : World) (g : Nat) (cs : Array Value) : W.grownBy (W.setRow g cs) (some g):=⟨rfl,rfl,rfl,by simp,fun k _ hne=>setRow_other W g k cs (fun e=>hne (by rw [e]))⟩
theorem bx_put (b : Bx n t g W cs) (hgd : o.guard = none) (hd : o.dst = none) {ty : TypeId} {x y : Operand} (ho : o.op = .store ty x y) {j : Nat} (hx : a.eval x = .pointer (some ⟨g,j,none⟩)) {v : Value} (hy : a.eval y = v)
 (h1 : v.oneCell' = true) (hc : v.cells = #[v]) (hi : (P.info? ty).map (·.size) = some 1) {u : Value} (hu : cs[j]? = some u) {cs' : Array Value} (hs : cs.setIfInBounds j v = cs')
 (h : ∀ w1,W.grownBy w1 (some g) → Bx n t g w1 cs' → wpList P ops Q rest a w1) : wpList P ops Q (o :: rest) a W:=by
 refine wpList_plain hgd fun K hK=>?_
 have hcell : W.cell? ⟨g,j,none⟩ = some u:=(zB W g j cs t (0,0) b.bx).trans hu;have hfro : W.frozen? ⟨g,j,none⟩ = false:=by simp [World.frozen?,b.bx]
 have hst : (store (⟨g,j,none⟩ : Addr) v).run P W = .ok () (W.setRow g cs'):=by
  rw [run_store P W _ v _ h1,hcell];simp [hfro,setCell_eq_setRow W g j cs t (0,0) v b.bx,hs]
 have hadd : (⟨g,j,none⟩ : Addr).add 0 = ⟨g,j,none⟩:=by unfold Addr.add;split <;> simp_all
 have hk:=hK _ _ (h _ (grown_setRow W g cs') ⟨b.hg,setRow_heap W g cs cs' t (0,0) b.bx⟩);have hput : a.put o.dst undef = a:=by rw [hd];rfl
 cases hq : P.info? ty with
|none=>simp [hq] at hi
|some i =>
  have hsz : i.size = 1:=by simpa [hq] using hi
  have hsv : (storeVar ty (⟨g,j,none⟩ : Addr) v).run P W = .ok () (W.setRow g cs'):=by
   simp [storeVar,sizeOf,typeInfo,hq,hsz,hc,storeCells,hadd,hst]
  unfold Oper.wp execOp;simp only [ho,hx,hy,Instr.storeAt,Instr.sureAddr,Sem.run_bind,Sem.run_pure,Result.andThen_ok,hsv];show K (a.put o.dst undef) _
  rw [hput];exact hk
theorem bx_store (b : Bx n t g W cs) (hgd : o.guard = none) (hd : o.dst = none) {ty : TypeId} {x y : Operand} (ho : o.op = .store ty x y) (hx : a.eval x = .pointer (some ⟨g,0,none⟩)) {cs' : Array Value} (hy : a.eval y = .agg cs')
 (hi : (P.info? ty).map (·.size) = some cs'.size) (hold : cs.size = cs'.size) (h1 : cs'.all (·.oneCell') = true)
 (h : ∀ w1,W.grownBy w1 (some g) → Bx n t g w1 cs' → wpList P ops Q rest a w1) : wpList P ops Q (o :: rest) a W:=by
 refine wpList_store_row hgd ty x y ho g cs' hx hy t cs b.bx hi hold h1 ?_;have hput : a.put o.dst undef = a:=by rw [hd];rfl
 rw [hput];exact h _ (grown_setRow W g cs') ⟨b.hg,setRow_heap W g cs cs' t (0,0) b.bx⟩
end
section
variable {P : Program} {o : Oper} {a : Act} {w' : World} {g : Nat} {cs : Array Value} {t : TypeId}
theorem bx_yields (b : w'.heap[g]? = some (.cells cs t (0,0))) {ty : TypeId} {x : Operand} (ho : o.op = .load ty x) {j : Nat} (hx : a.eval x = .pointer (some ⟨g,j,none⟩))
 {d : TypeDesc} (hu : P.underlying ty = some d) (hty : (match d with|.struct _|.array _ _=>true|_=>false) = false) {v : Value} (hv : cs[j]? = some v) : (execOp a.eval o).run P w' = .ok (.value v) w':=by
 have hc : w'.cell? ⟨g,j,none⟩ = some v:=(zB w' g j cs t (0,0) b).trans hv;have hagg : (isAgg ty).run P w' = .ok false w':=by
  unfold isAgg;rw [Sem.run_bind,run_underlying hu w'];cases d <;> simp_all
 unfold execOp;simp only [ho,hx,Instr.loadAt,Instr.sureAddr,loadVar,Sem.run_bind,Sem.run_pure,Result.andThen_ok,hagg,Bool.false_eq_true,if_false,run_load,hc]
theorem bx_yieldw (b : w'.heap[g]? = some (.cells cs t (0,0))) {ty : TypeId} {x : Operand} (ho : o.op = .load ty x) (hx : a.eval x = .pointer (some ⟨g,0,none⟩))
 {d : TypeDesc} (hu : P.underlying ty = some d) (hty : (match d with|.struct _|.array _ _=>true|_=>false) = true) (hi : (P.info? ty).map (·.size) = some cs.size) : (execOp a.eval o).run P w' = .ok (.value (.agg cs)) w':=by
 unfold execOp;simp only [ho,hx,Instr.loadAt,Instr.sureAddr,Sem.run_bind,Sem.run_pure,Result.andThen_ok,run_loadVar_row w' g t ty cs (0,0) d b hu hty hi]
end
section
variable {P : Program} {ops : Array Oper} {o : Oper} {a : Act} {W : World} {Q : Exit → Act → World → Prop} {K : Act → World → Prop} {n g : Nat} {cs : Array Value} {t : TypeId}
theorem bx_store_if (b : Bx n t g W cs) (hw : Region.wanted o (yielded ops a.tmps) = true) (hN : o.dst = none) {ty : TypeId} {x y : Operand} (ho : o.op = .store ty x y) (hx : a.eval x = .pointer (some ⟨g,0,none⟩)) {cs' : Array Value} (hy : a.eval y = .agg cs')
 (hi : (P.info? ty).map (·.size) = some cs'.size) (hold : cs.size = cs'.size) (h1 : cs'.all (·.oneCell') = true)
 (hK : ∀ w1,W.grownBy w1 (some g) → Bx n t g w1 cs' → K a w1) : if Region.wanted o (yielded ops a.tmps) = true then Oper.wp P o a W K Q else K (a.put none undef) W:=by
 refine skip_ (w1:=W.setRow g cs') hw hN ?_ (hK _ (grown_setRow W g cs') ⟨b.hg,setRow_heap W g cs cs' t (0,0) b.bx⟩);unfold execOp;simp only [ho,hx,hy,Instr.storeAt,Instr.sureAddr,Sem.run_bind,Sem.run_pure,Result.andThen_ok,run_storeVar_row W g t ty cs cs' b.bx hi hold h1]
theorem bx_put_if (b : Bx n t g W cs) (hw : Region.wanted o (yielded ops a.tmps) = true) (hN : o.dst = none) {ty : TypeId} {x y : Operand} (ho : o.op = .store ty x y) {j : Nat} (hx : a.eval x = .pointer (some ⟨g,j,none⟩))
 {u : Value} (hu : cs[j]? = some u) {v : Value} {cs' : Array Value} (hs : cs.setIfInBounds j v = cs') (hy : a.eval y = v) (h1 : v.oneCell' = true) (hc : v.cells = #[v]) (hi : (P.info? ty).map (·.size) = some 1)
 (hK : ∀ w1,W.grownBy w1 (some g) → Bx n t g w1 cs' → K a w1) : if Region.wanted o (yielded ops a.tmps) = true then Oper.wp P o a W K Q else K (a.put none undef) W:=by
 refine skip_ (w1:=W.setRow g cs') hw hN ?_ (hK _ (grown_setRow W g cs') ⟨b.hg,setRow_heap W g cs cs' t (0,0) b.bx⟩);have hcell : W.cell? ⟨g,j,none⟩ = some u:=(zB W g j cs t (0,0) b.bx).trans hu;have hfro : W.frozen? ⟨g,j,none⟩ = false:=by simp [World.frozen?,b.bx]
 have hst : (store (⟨g,j,none⟩ : Addr) v).run P W = .ok () (W.setRow g cs'):=by
  rw [run_store P W _ v _ h1,hcell];simp [hfro,setCell_eq_setRow W g j cs t (0,0) v b.bx,hs]
 have hadd : (⟨g,j,none⟩ : Addr).add 0 = ⟨g,j,none⟩:=by unfold Addr.add;split <;> simp_all
 cases hq : P.info? ty with
|none=>simp [hq] at hi
|some i =>
  have hsz : i.size = 1:=by simpa [hq] using hi
  have hsv : (storeVar ty (⟨g,j,none⟩ : Addr) v).run P W = .ok () (W.setRow g cs'):=by
   simp [storeVar,sizeOf,typeInfo,hq,hsz,hc,storeCells,hadd,hst]
  unfold execOp;simp only [ho,hx,hy,Instr.storeAt,Instr.sureAddr,Sem.run_bind,Sem.run_pure,Result.andThen_ok,hsv]
end
theorem one3 : (Try.prog.info? 3).map (·.size) = some 1:=by kernel_rfl
theorem one4 : (Try.prog.info? 4).map (·.size) = some 1:=by kernel_rfl
theorem one5 : (Try.prog.info? 5).map (·.size) = some 1:=by kernel_rfl
theorem one22 : (Try.prog.info? 22).map (·.size) = some 1:=by kernel_rfl
theorem one24 : (Try.prog.info? 24).map (·.size) = some 1:=by kernel_rfl
theorem one25 : (Try.prog.info? 25).map (·.size) = some 1:=by kernel_rfl
theorem one26 : (Try.prog.info? 26).map (·.size) = some 1:=by kernel_rfl
theorem one27 : (Try.prog.info? 27).map (·.size) = some 1:=by kernel_rfl
structure Sl where
 A : Option Addr
 n : Nat
 c : Nat
structure Scr where
 rows : Int
 cols : Int
 c : Sl
 y : Int
 x : Int
 wrap : Bool
 attr : Int
 top : Int
 bottom : Int
 t : Sl
 sy : Int
 sx : Int
 sattr : Int
 auto : Bool
 shown : Bool
 alt : Bool
 o : Sl
 oy : Int
 ox : Int
 mode : Int
 priv : Int
 p : Sl
 i : Sl
 u : Sl
def Scr.cs (s : Scr) : Array Value:=#[(.int .i64 s.rows),(.int .i64 s.cols),(.slice s.c.A s.c.n s.c.c),(.int .i64 s.y),(.int .i64 s.x),(.bool s.wrap),(.int .u16 s.attr),(.int .i64 s.top),(.int .i64 s.bottom),(.slice s.t.A s.t.n s.t.c),(.int .i64 s.sy),(.int .i64 s.sx),(.int .u16 s.sattr),(.bool s.auto),(.bool s.shown),(.bool s.alt),(.slice s.o.A s.o.n s.o.c),(.int .i64 s.oy),(.int .i64 s.ox),(.int .i64 s.mode),(.int .u8 s.priv),(.slice s.p.A s.p.n s.p.c),(.slice s.i.A s.i.n s.i.c),(.slice s.u.A s.u.n s.u.c)]
def Scr.zero : Scr:=⟨0,0,⟨none,0,0⟩,0,0,false,0,0,0,⟨none,0,0⟩,0,0,0,false,false,false,⟨none,0,0⟩,0,0,0,0,⟨none,0,0⟩,⟨none,0,0⟩,⟨none,0,0⟩⟩
theorem Scr.size (s : Scr) : s.cs.size = 24:=rfl
theorem Scr.all (s : Scr) : s.cs.all (·.oneCell') = true:=by unfold Scr.cs;simp [Value.oneCell']
theorem Scr.infoz : (Try.prog.info? 31).map (·.zero) = some (some (.agg #[(.int .i64 0),(.int .i64 0),(.slice none 0 0),(.int .i64 0),(.int .i64 0),(.bool false),(.int .u16 0),(.int .i64 0),(.int .i64 0),(.slice none 0 0),(.int .i64 0),(.int .i64 0),(.int .u16 0),(.bool false),(.bool false),(.bool false),(.slice none 0 0),(.int .i64 0),(.int .i64 0),(.int .i64 0),(.int .u8 0),(.slice none 0 0),(.slice none 0 0),(.slice none 0 0)])):=by kernel_rfl
theorem Scr.infos : (Try.prog.info? 31).map (·.size) = some 24:=by kernel_rfl
theorem Scr.sizes (s : Scr) : (Try.prog.info? 31).map (·.size) = some s.cs.size:=Scr.infos
theorem Scr.get_rows (s : Scr) : s.cs[0]? = some (.int .i64 s.rows):=rfl
theorem Scr.get_cols (s : Scr) : s.cs[1]? = some (.int .i64 s.cols):=rfl
def Scr.set_c (s : Scr) (a : Sl) : Scr:={ s with c:=a }
theorem Scr.get_c (s : Scr) : s.cs[2]? = some (.slice s.c.A s.c.n s.c.c):=rfl
theorem Scr.put_c (s : Scr) (a : Sl) : s.cs.setIfInBounds 2 (.slice a.A a.n a.c) = (s.set_c a).cs:=rfl
def Scr.set_y (s : Scr) (a : Int) : Scr:={ s with y:=a }
theorem Scr.get_y (s : Scr) : s.cs[3]? = some (.int .i64 s.y):=rfl
theorem Scr.put_y (s : Scr) (a : Int) : s.cs.setIfInBounds 3 (.int .i64 a) = (s.set_y a).cs:=rfl
def Scr.set_x (s : Scr) (a : Int) : Scr:={ s with x:=a }
theorem Scr.get_x (s : Scr) : s.cs[4]? = some (.int .i64 s.x):=rfl
theorem Scr.put_x (s : Scr) (a : Int) : s.cs.setIfInBounds 4 (.int .i64 a) = (s.set_x a).cs:=rfl
def Scr.set_wrap (s : Scr) (a : Bool) : Scr:={ s with wrap:=a }
theorem Scr.get_wrap (s : Scr) : s.cs[5]? = some (.bool s.wrap):=rfl
theorem Scr.put_wrap (s : Scr) (a : Bool) : s.cs.setIfInBounds 5 (.bool a) = (s.set_wrap a).cs:=rfl
def Scr.set_attr (s : Scr) (a : Int) : Scr:={ s with attr:=a }
theorem Scr.get_attr (s : Scr) : s.cs[6]? = some (.int .u16 s.attr):=rfl
theorem Scr.put_attr (s : Scr) (a : Int) : s.cs.setIfInBounds 6 (.int .u16 a) = (s.set_attr a).cs:=rfl
def Scr.set_top (s : Scr) (a : Int) : Scr:={ s with top:=a }
theorem Scr.get_top (s : Scr) : s.cs[7]? = some (.int .i64 s.top):=rfl
theorem Scr.put_top (s : Scr) (a : Int) : s.cs.setIfInBounds 7 (.int .i64 a) = (s.set_top a).cs:=rfl
def Scr.set_bottom (s : Scr) (a : Int) : Scr:={ s with bottom:=a }
theorem Scr.get_bottom (s : Scr) : s.cs[8]? = some (.int .i64 s.bottom):=rfl
theorem Scr.put_bottom (s : Scr) (a : Int) : s.cs.setIfInBounds 8 (.int .i64 a) = (s.set_bottom a).cs:=rfl
def Scr.set_t (s : Scr) (a : Sl) : Scr:={ s with t:=a }
theorem Scr.get_t (s : Scr) : s.cs[9]? = some (.slice s.t.A s.t.n s.t.c):=rfl
theorem Scr.put_t (s : Scr) (a : Sl) : s.cs.setIfInBounds 9 (.slice a.A a.n a.c) = (s.set_t a).cs:=rfl
def Scr.set_sy (s : Scr) (a : Int) : Scr:={ s with sy:=a }
theorem Scr.get_sy (s : Scr) : s.cs[10]? = some (.int .i64 s.sy):=rfl
theorem Scr.put_sy (s : Scr) (a : Int) : s.cs.setIfInBounds 10 (.int .i64 a) = (s.set_sy a).cs:=rfl
def Scr.set_sx (s : Scr) (a : Int) : Scr:={ s with sx:=a }
theorem Scr.get_sx (s : Scr) : s.cs[11]? = some (.int .i64 s.sx):=rfl
theorem Scr.put_sx (s : Scr) (a : Int) : s.cs.setIfInBounds 11 (.int .i64 a) = (s.set_sx a).cs:=rfl
def Scr.set_sattr (s : Scr) (a : Int) : Scr:={ s with sattr:=a }
theorem Scr.get_sattr (s : Scr) : s.cs[12]? = some (.int .u16 s.sattr):=rfl
theorem Scr.put_sattr (s : Scr) (a : Int) : s.cs.setIfInBounds 12 (.int .u16 a) = (s.set_sattr a).cs:=rfl
def Scr.set_auto (s : Scr) (a : Bool) : Scr:={ s with auto:=a }
theorem Scr.get_auto (s : Scr) : s.cs[13]? = some (.bool s.auto):=rfl
theorem Scr.put_auto (s : Scr) (a : Bool) : s.cs.setIfInBounds 13 (.bool a) = (s.set_auto a).cs:=rfl
def Scr.set_shown (s : Scr) (a : Bool) : Scr:={ s with shown:=a }
theorem Scr.get_shown (s : Scr) : s.cs[14]? = some (.bool s.shown):=rfl
theorem Scr.put_shown (s : Scr) (a : Bool) : s.cs.setIfInBounds 14 (.bool a) = (s.set_shown a).cs:=rfl
def Scr.set_alt (s : Scr) (a : Bool) : Scr:={ s with alt:=a }
theorem Scr.get_alt (s : Scr) : s.cs[15]? = some (.bool s.alt):=rfl
theorem Scr.put_alt (s : Scr) (a : Bool) : s.cs.setIfInBounds 15 (.bool a) = (s.set_alt a).cs:=rfl
def Scr.set_o (s : Scr) (a : Sl) : Scr:={ s with o:=a }
theorem Scr.get_o (s : Scr) : s.cs[16]? = some (.slice s.o.A s.o.n s.o.c):=rfl
theorem Scr.put_o (s : Scr) (a : Sl) : s.cs.setIfInBounds 16 (.slice a.A a.n a.c) = (s.set_o a).cs:=rfl
theorem Scr.putn_o (s : Scr) : s.cs.setIfInBounds 16 (.slice none 0 0) = (s.set_o ⟨none,0,0⟩).cs:=rfl
def Scr.set_oy (s : Scr) (a : Int) : Scr:={ s with oy:=a }
theorem Scr.get_oy (s : Scr) : s.cs[17]? = some (.int .i64 s.oy):=rfl
theorem Scr.put_oy (s : Scr) (a : Int) : s.cs.setIfInBounds 17 (.int .i64 a) = (s.set_oy a).cs:=rfl
def Scr.set_ox (s : Scr) (a : Int) : Scr:={ s with ox:=a }
theorem Scr.get_ox (s : Scr) : s.cs[18]? = some (.int .i64 s.ox):=rfl
theorem Scr.put_ox (s : Scr) (a : Int) : s.cs.setIfInBounds 18 (.int .i64 a) = (s.set_ox a).cs:=rfl
def Scr.set_mode (s : Scr) (a : Int) : Scr:={ s with mode:=a }
theorem Scr.get_mode (s : Scr) : s.cs[19]? = some (.int .i64 s.mode):=rfl
theorem Scr.put_mode (s : Scr) (a : Int) : s.cs.setIfInBounds 19 (.int .i64 a) = (s.set_mode a).cs:=rfl
def Scr.set_priv (s : Scr) (a : Int) : Scr:={ s with priv:=a }
theorem Scr.get_priv (s : Scr) : s.cs[20]? = some (.int .u8 s.priv):=rfl
theorem Scr.put_priv (s : Scr) (a : Int) : s.cs.setIfInBounds 20 (.int .u8 a) = (s.set_priv a).cs:=rfl
def Scr.set_p (s : Scr) (a : Sl) : Scr:={ s with p:=a }
theorem Scr.get_p (s : Scr) : s.cs[21]? = some (.slice s.p.A s.p.n s.p.c):=rfl
theorem Scr.put_p (s : Scr) (a : Sl) : s.cs.setIfInBounds 21 (.slice a.A a.n a.c) = (s.set_p a).cs:=rfl
def Scr.set_i (s : Scr) (a : Sl) : Scr:={ s with i:=a }
theorem Scr.get_i (s : Scr) : s.cs[22]? = some (.slice s.i.A s.i.n s.i.c):=rfl
theorem Scr.put_i (s : Scr) (a : Sl) : s.cs.setIfInBounds 22 (.slice a.A a.n a.c) = (s.set_i a).cs:=rfl
def Scr.set_u (s : Scr) (a : Sl) : Scr:={ s with u:=a }
theorem Scr.get_u (s : Scr) : s.cs[23]? = some (.slice s.u.A s.u.n s.u.c):=rfl
theorem Scr.putn_u (s : Scr) : s.cs.setIfInBounds 23 (.slice none 0 0) = (s.set_u ⟨none,0,0⟩).cs:=rfl
@[go_sem] theorem Scr.q_c (s : Scr) (a : Sl) : (s.set_c a).rows = s.rows∧(s.set_c a).cols = s.cols∧(s.set_c a).c = a∧(s.set_c a).y = s.y∧(s.set_c a).x = s.x∧(s.set_c a).wrap = s.wrap∧(s.set_c a).attr = s.attr∧(s.set_c a).top = s.top∧(s.set_c a).bottom = s.bottom∧(s.set_c a).t = s.t∧(s.set_c a).sy = s.sy∧(s.set_c a).sx = s.sx∧(s.set_c a).sattr = s.sattr∧(s.set_c a).auto = s.auto∧(s.set_c a).shown = s.shown∧(s.set_c a).alt = s.alt∧(s.set_c a).o = s.o∧(s.set_c a).oy = s.oy∧(s.set_c a).ox = s.ox∧(s.set_c a).mode = s.mode∧(s.set_c a).priv = s.priv∧(s.set_c a).p = s.p∧(s.set_c a).i = s.i∧(s.set_c a).u = s.u:=by repeat' constructor
@[go_sem] theorem Scr.q_y (s : Scr) (a : Int) : (s.set_y a).rows = s.rows∧(s.set_y a).cols = s.cols∧(s.set_y a).c = s.c∧(s.set_y a).y = a∧(s.set_y a).x = s.x∧(s.set_y a).wrap = s.wrap∧(s.set_y a).attr = s.attr∧(s.set_y a).top = s.top∧(s.set_y a).bottom = s.bottom∧(s.set_y a).t = s.t∧(s.set_y a).sy = s.sy∧(s.set_y a).sx = s.sx∧(s.set_y a).sattr = s.sattr∧(s.set_y a).auto = s.auto∧(s.set_y a).shown = s.shown∧(s.set_y a).alt = s.alt∧(s.set_y a).o = s.o∧(s.set_y a).oy = s.oy∧(s.set_y a).ox = s.ox∧(s.set_y a).mode = s.mode∧(s.set_y a).priv = s.priv∧(s.set_y a).p = s.p∧(s.set_y a).i = s.i∧(s.set_y a).u = s.u:=by repeat' constructor
@[go_sem] theorem Scr.q_x (s : Scr) (a : Int) : (s.set_x a).rows = s.rows∧(s.set_x a).cols = s.cols∧(s.set_x a).c = s.c∧(s.set_x a).y = s.y∧(s.set_x a).x = a∧(s.set_x a).wrap = s.wrap∧(s.set_x a).attr = s.attr∧(s.set_x a).top = s.top∧(s.set_x a).bottom = s.bottom∧(s.set_x a).t = s.t∧(s.set_x a).sy = s.sy∧(s.set_x a).sx = s.sx∧(s.set_x a).sattr = s.sattr∧(s.set_x a).auto = s.auto∧(s.set_x a).shown = s.shown∧(s.set_x a).alt = s.alt∧(s.set_x a).o = s.o∧(s.set_x a).oy = s.oy∧(s.set_x a).ox = s.ox∧(s.set_x a).mode = s.mode∧(s.set_x a).priv = s.priv∧(s.set_x a).p = s.p∧(s.set_x a).i = s.i∧(s.set_x a).u = s.u:=by repeat' constructor
@[go_sem] theorem Scr.q_wrap (s : Scr) (a : Bool) : (s.set_wrap a).rows = s.rows∧(s.set_wrap a).cols = s.cols∧(s.set_wrap a).c = s.c∧(s.set_wrap a).y = s.y∧(s.set_wrap a).x = s.x∧(s.set_wrap a).wrap = a∧(s.set_wrap a).attr = s.attr∧(s.set_wrap a).top = s.top∧(s.set_wrap a).bottom = s.bottom∧(s.set_wrap a).t = s.t∧(s.set_wrap a).sy = s.sy∧(s.set_wrap a).sx = s.sx∧(s.set_wrap a).sattr = s.sattr∧(s.set_wrap a).auto = s.auto∧(s.set_wrap a).shown = s.shown∧(s.set_wrap a).alt = s.alt∧(s.set_wrap a).o = s.o∧(s.set_wrap a).oy = s.oy∧(s.set_wrap a).ox = s.ox∧(s.set_wrap a).mode = s.mode∧(s.set_wrap a).priv = s.priv∧(s.set_wrap a).p = s.p∧(s.set_wrap a).i = s.i∧(s.set_wrap a).u = s.u:=by repeat' constructor
@[go_sem] theorem Scr.q_attr (s : Scr) (a : Int) : (s.set_attr a).rows = s.rows∧(s.set_attr a).cols = s.cols∧(s.set_attr a).c = s.c∧(s.set_attr a).y = s.y∧(s.set_attr a).x = s.x∧(s.set_attr a).wrap = s.wrap∧(s.set_attr a).attr = a∧(s.set_attr a).top = s.top∧(s.set_attr a).bottom = s.bottom∧(s.set_attr a).t = s.t∧(s.set_attr a).sy = s.sy∧(s.set_attr a).sx = s.sx∧(s.set_attr a).sattr = s.sattr∧(s.set_attr a).auto = s.auto∧(s.set_attr a).shown = s.shown∧(s.set_attr a).alt = s.alt∧(s.set_attr a).o = s.o∧(s.set_attr a).oy = s.oy∧(s.set_attr a).ox = s.ox∧(s.set_attr a).mode = s.mode∧(s.set_attr a).priv = s.priv∧(s.set_attr a).p = s.p∧(s.set_attr a).i = s.i∧(s.set_attr a).u = s.u:=by repeat' constructor
@[go_sem] theorem Scr.q_top (s : Scr) (a : Int) : (s.set_top a).rows = s.rows∧(s.set_top a).cols = s.cols∧(s.set_top a).c = s.c∧(s.set_top a).y = s.y∧(s.set_top a).x = s.x∧(s.set_top a).wrap = s.wrap∧(s.set_top a).attr = s.attr∧(s.set_top a).top = a∧(s.set_top a).bottom = s.bottom∧(s.set_top a).t = s.t∧(s.set_top a).sy = s.sy∧(s.set_top a).sx = s.sx∧(s.set_top a).sattr = s.sattr∧(s.set_top a).auto = s.auto∧(s.set_top a).shown = s.shown∧(s.set_top a).alt = s.alt∧(s.set_top a).o = s.o∧(s.set_top a).oy = s.oy∧(s.set_top a).ox = s.ox∧(s.set_top a).mode = s.mode∧(s.set_top a).priv = s.priv∧(s.set_top a).p = s.p∧(s.set_top a).i = s.i∧(s.set_top a).u = s.u:=by repeat' constructor
@[go_sem] theorem Scr.q_bottom (s : Scr) (a : Int) : (s.set_bottom a).rows = s.rows∧(s.set_bottom a).cols = s.cols∧(s.set_bottom a).c = s.c∧(s.set_bottom a).y = s.y∧(s.set_bottom a).x = s.x∧(s.set_bottom a).wrap = s.wrap∧(s.set_bottom a).attr = s.attr∧(s.set_bottom a).top = s.top∧(s.set_bottom a).bottom = a∧(s.set_bottom a).t = s.t∧(s.set_bottom a).sy = s.sy∧(s.set_bottom a).sx = s.sx∧(s.set_bottom a).sattr = s.sattr∧(s.set_bottom a).auto = s.auto∧(s.set_bottom a).shown = s.shown∧(s.set_bottom a).alt = s.alt∧(s.set_bottom a).o = s.o∧(s.set_bottom a).oy = s.oy∧(s.set_bottom a).ox = s.ox∧(s.set_bottom a).mode = s.mode∧(s.set_bottom a).priv = s.priv∧(s.set_bottom a).p = s.p∧(s.set_bottom a).i = s.i∧(s.set_bottom a).u = s.u:=by repeat' constructor
@[go_sem] theorem Scr.q_t (s : Scr) (a : Sl) : (s.set_t a).rows = s.rows∧(s.set_t a).cols = s.cols∧(s.set_t a).c = s.c∧(s.set_t a).y = s.y∧(s.set_t a).x = s.x∧(s.set_t a).wrap = s.wrap∧(s.set_t a).attr = s.attr∧(s.set_t a).top = s.top∧(s.set_t a).bottom = s.bottom∧(s.set_t a).t = a∧(s.set_t a).sy = s.sy∧(s.set_t a).sx = s.sx∧(s.set_t a).sattr = s.sattr∧(s.set_t a).auto = s.auto∧(s.set_t a).shown = s.shown∧(s.set_t a).alt = s.alt∧(s.set_t a).o = s.o∧(s.set_t a).oy = s.oy∧(s.set_t a).ox = s.ox∧(s.set_t a).mode = s.mode∧(s.set_t a).priv = s.priv∧(s.set_t a).p = s.p∧(s.set_t a).i = s.i∧(s.set_t a).u = s.u:=by repeat' constructor
@[go_sem] theorem Scr.q_sy (s : Scr) (a : Int) : (s.set_sy a).rows = s.rows∧(s.set_sy a).cols = s.cols∧(s.set_sy a).c = s.c∧(s.set_sy a).y = s.y∧(s.set_sy a).x = s.x∧(s.set_sy a).wrap = s.wrap∧(s.set_sy a).attr = s.attr∧(s.set_sy a).top = s.top∧(s.set_sy a).bottom = s.bottom∧(s.set_sy a).t = s.t∧(s.set_sy a).sy = a∧(s.set_sy a).sx = s.sx∧(s.set_sy a).sattr = s.sattr∧(s.set_sy a).auto = s.auto∧(s.set_sy a).shown = s.shown∧(s.set_sy a).alt = s.alt∧(s.set_sy a).o = s.o∧(s.set_sy a).oy = s.oy∧(s.set_sy a).ox = s.ox∧(s.set_sy a).mode = s.mode∧(s.set_sy a).priv = s.priv∧(s.set_sy a).p = s.p∧(s.set_sy a).i = s.i∧(s.set_sy a).u = s.u:=by repeat' constructor
@[go_sem] theorem Scr.q_sx (s : Scr) (a : Int) : (s.set_sx a).rows = s.rows∧(s.set_sx a).cols = s.cols∧(s.set_sx a).c = s.c∧(s.set_sx a).y = s.y∧(s.set_sx a).x = s.x∧(s.set_sx a).wrap = s.wrap∧(s.set_sx a).attr = s.attr∧(s.set_sx a).top = s.top∧(s.set_sx a).bottom = s.bottom∧(s.set_sx a).t = s.t∧(s.set_sx a).sy = s.sy∧(s.set_sx a).sx = a∧(s.set_sx a).sattr = s.sattr∧(s.set_sx a).auto = s.auto∧(s.set_sx a).shown = s.shown∧(s.set_sx a).alt = s.alt∧(s.set_sx a).o = s.o∧(s.set_sx a).oy = s.oy∧(s.set_sx a).ox = s.ox∧(s.set_sx a).mode = s.mode∧(s.set_sx a).priv = s.priv∧(s.set_sx a).p = s.p∧(s.set_sx a).i = s.i∧(s.set_sx a).u = s.u:=by repeat' constructor
@[go_sem] theorem Scr.q_sattr (s : Scr) (a : Int) : (s.set_sattr a).rows = s.rows∧(s.set_sattr a).cols = s.cols∧(s.set_sattr a).c = s.c∧(s.set_sattr a).y = s.y∧(s.set_sattr a).x = s.x∧(s.set_sattr a).wrap = s.wrap∧(s.set_sattr a).attr = s.attr∧(s.set_sattr a).top = s.top∧(s.set_sattr a).bottom = s.bottom∧(s.set_sattr a).t = s.t∧(s.set_sattr a).sy = s.sy∧(s.set_sattr a).sx = s.sx∧(s.set_sattr a).sattr = a∧(s.set_sattr a).auto = s.auto∧(s.set_sattr a).shown = s.shown∧(s.set_sattr a).alt = s.alt∧(s.set_sattr a).o = s.o∧(s.set_sattr a).oy = s.oy∧(s.set_sattr a).ox = s.ox∧(s.set_sattr a).mode = s.mode∧(s.set_sattr a).priv = s.priv∧(s.set_sattr a).p = s.p∧(s.set_sattr a).i = s.i∧(s.set_sattr a).u = s.u:=by repeat' constructor
@[go_sem] theorem Scr.q_auto (s : Scr) (a : Bool) : (s.set_auto a).rows = s.rows∧(s.set_auto a).cols = s.cols∧(s.set_auto a).c = s.c∧(s.set_auto a).y = s.y∧(s.set_auto a).x = s.x∧(s.set_auto a).wrap = s.wrap∧(s.set_auto a).attr = s.attr∧(s.set_auto a).top = s.top∧(s.set_auto a).bottom = s.bottom∧(s.set_auto a).t = s.t∧(s.set_auto a).sy = s.sy∧(s.set_auto a).sx = s.sx∧(s.set_auto a).sattr = s.sattr∧(s.set_auto a).auto = a∧(s.set_auto a).shown = s.shown∧(s.set_auto a).alt = s.alt∧(s.set_auto a).o = s.o∧(s.set_auto a).oy = s.oy∧(s.set_auto a).ox = s.ox∧(s.set_auto a).mode = s.mode∧(s.set_auto a).priv = s.priv∧(s.set_auto a).p = s.p∧(s.set_auto a).i = s.i∧(s.set_auto a).u = s.u:=by repeat' constructor
@[go_sem] theorem Scr.q_shown (s : Scr) (a : Bool) : (s.set_shown a).rows = s.rows∧(s.set_shown a).cols = s.cols∧(s.set_shown a).c = s.c∧(s.set_shown a).y = s.y∧(s.set_shown a).x = s.x∧(s.set_shown a).wrap = s.wrap∧(s.set_shown a).attr = s.attr∧(s.set_shown a).top = s.top∧(s.set_shown a).bottom = s.bottom∧(s.set_shown a).t = s.t∧(s.set_shown a).sy = s.sy∧(s.set_shown a).sx = s.sx∧(s.set_shown a).sattr = s.sattr∧(s.set_shown a).auto = s.auto∧(s.set_shown a).shown = a∧(s.set_shown a).alt = s.alt∧(s.set_shown a).o = s.o∧(s.set_shown a).oy = s.oy∧(s.set_shown a).ox = s.ox∧(s.set_shown a).mode = s.mode∧(s.set_shown a).priv = s.priv∧(s.set_shown a).p = s.p∧(s.set_shown a).i = s.i∧(s.set_shown a).u = s.u:=by repeat' constructor
@[go_sem] theorem Scr.q_alt (s : Scr) (a : Bool) : (s.set_alt a).rows = s.rows∧(s.set_alt a).cols = s.cols∧(s.set_alt a).c = s.c∧(s.set_alt a).y = s.y∧(s.set_alt a).x = s.x∧(s.set_alt a).wrap = s.wrap∧(s.set_alt a).attr = s.attr∧(s.set_alt a).top = s.top∧(s.set_alt a).bottom = s.bottom∧(s.set_alt a).t = s.t∧(s.set_alt a).sy = s.sy∧(s.set_alt a).sx = s.sx∧(s.set_alt a).sattr = s.sattr∧(s.set_alt a).auto = s.auto∧(s.set_alt a).shown = s.shown∧(s.set_alt a).alt = a∧(s.set_alt a).o = s.o∧(s.set_alt a).oy = s.oy∧(s.set_alt a).ox = s.ox∧(s.set_alt a).mode = s.mode∧(s.set_alt a).priv = s.priv∧(s.set_alt a).p = s.p∧(s.set_alt a).i = s.i∧(s.set_alt a).u = s.u:=by repeat' constructor
@[go_sem] theorem Scr.q_o (s : Scr) (a : Sl) : (s.set_o a).rows = s.rows∧(s.set_o a).cols = s.cols∧(s.set_o a).c = s.c∧(s.set_o a).y = s.y∧(s.set_o a).x = s.x∧(s.set_o a).wrap = s.wrap∧(s.set_o a).attr = s.attr∧(s.set_o a).top = s.top∧(s.set_o a).bottom = s.bottom∧(s.set_o a).t = s.t∧(s.set_o a).sy = s.sy∧(s.set_o a).sx = s.sx∧(s.set_o a).sattr = s.sattr∧(s.set_o a).auto = s.auto∧(s.set_o a).shown = s.shown∧(s.set_o a).alt = s.alt∧(s.set_o a).o = a∧(s.set_o a).oy = s.oy∧(s.set_o a).ox = s.ox∧(s.set_o a).mode = s.mode∧(s.set_o a).priv = s.priv∧(s.set_o a).p = s.p∧(s.set_o a).i = s.i∧(s.set_o a).u = s.u:=by repeat' constructor
@[go_sem] theorem Scr.q_oy (s : Scr) (a : Int) : (s.set_oy a).rows = s.rows∧(s.set_oy a).cols = s.cols∧(s.set_oy a).c = s.c∧(s.set_oy a).y = s.y∧(s.set_oy a).x = s.x∧(s.set_oy a).wrap = s.wrap∧(s.set_oy a).attr = s.attr∧(s.set_oy a).top = s.top∧(s.set_oy a).bottom = s.bottom∧(s.set_oy a).t = s.t∧(s.set_oy a).sy = s.sy∧(s.set_oy a).sx = s.sx∧(s.set_oy a).sattr = s.sattr∧(s.set_oy a).auto = s.auto∧(s.set_oy a).shown = s.shown∧(s.set_oy a).alt = s.alt∧(s.set_oy a).o = s.o∧(s.set_oy a).oy = a∧(s.set_oy a).ox = s.ox∧(s.set_oy a).mode = s.mode∧(s.set_oy a).priv = s.priv∧(s.set_oy a).p = s.p∧(s.set_oy a).i = s.i∧(s.set_oy a).u = s.u:=by repeat' constructor
@[go_sem] theorem Scr.q_ox (s : Scr) (a : Int) : (s.set_ox a).rows = s.rows∧(s.set_ox a).cols = s.cols∧(s.set_ox a).c = s.c∧(s.set_ox a).y = s.y∧(s.set_ox a).x = s.x∧(s.set_ox a).wrap = s.wrap∧(s.set_ox a).attr = s.attr∧(s.set_ox a).top = s.top∧(s.set_ox a).bottom = s.bottom∧(s.set_ox a).t = s.t∧(s.set_ox a).sy = s.sy∧(s.set_ox a).sx = s.sx∧(s.set_ox a).sattr = s.sattr∧(s.set_ox a).auto = s.auto∧(s.set_ox a).shown = s.shown∧(s.set_ox a).alt = s.alt∧(s.set_ox a).o = s.o∧(s.set_ox a).oy = s.oy∧(s.set_ox a).ox = a∧(s.set_ox a).mode = s.mode∧(s.set_ox a).priv = s.priv∧(s.set_ox a).p = s.p∧(s.set_ox a).i = s.i∧(s.set_ox a).u = s.u:=by repeat' constructor
structure Par where
 mode : Int
 priv : Int
 p : Sl
 i : Sl
 u : Sl
def Par.cs (s : Par) : Array Value:=#[(.int .i64 s.mode),(.int .u8 s.priv),(.slice s.p.A s.p.n s.p.c),(.slice s.i.A s.i.n s.i.c),(.slice s.u.A s.u.n s.u.c)]
def Par.zero : Par:=⟨0,0,⟨none,0,0⟩,⟨none,0,0⟩,⟨none,0,0⟩⟩
theorem Par.size (s : Par) : s.cs.size = 5:=rfl
theorem Par.all (s : Par) : s.cs.all (·.oneCell') = true:=by unfold Par.cs;simp [Value.oneCell']
theorem Par.infoz : (Try.prog.info? 29).map (·.zero) = some (some (.agg #[(.int .i64 0),(.int .u8 0),(.slice none 0 0),(.slice none 0 0),(.slice none 0 0)])):=by kernel_rfl
theorem Par.infos : (Try.prog.info? 29).map (·.size) = some 5:=by kernel_rfl
theorem Par.sizes (s : Par) : (Try.prog.info? 29).map (·.size) = some s.cs.size:=Par.infos
def Par.set_mode (s : Par) (a : Int) : Par:={ s with mode:=a }
theorem Par.get_mode (s : Par) : s.cs[0]? = some (.int .i64 s.mode):=rfl
theorem Par.put_mode (s : Par) (a : Int) : s.cs.setIfInBounds 0 (.int .i64 a) = (s.set_mode a).cs:=rfl
def Par.set_priv (s : Par) (a : Int) : Par:={ s with priv:=a }
theorem Par.get_priv (s : Par) : s.cs[1]? = some (.int .u8 s.priv):=rfl
theorem Par.put_priv (s : Par) (a : Int) : s.cs.setIfInBounds 1 (.int .u8 a) = (s.set_priv a).cs:=rfl
def Par.set_p (s : Par) (a : Sl) : Par:={ s with p:=a }
theorem Par.get_p (s : Par) : s.cs[2]? = some (.slice s.p.A s.p.n s.p.c):=rfl
theorem Par.put_p (s : Par) (a : Sl) : s.cs.setIfInBounds 2 (.slice a.A a.n a.c) = (s.set_p a).cs:=rfl
def Par.set_i (s : Par) (a : Sl) : Par:={ s with i:=a }
theorem Par.get_i (s : Par) : s.cs[3]? = some (.slice s.i.A s.i.n s.i.c):=rfl
theorem Par.put_i (s : Par) (a : Sl) : s.cs.setIfInBounds 3 (.slice a.A a.n a.c) = (s.set_i a).cs:=rfl
def Par.set_u (s : Par) (a : Sl) : Par:={ s with u:=a }
theorem Par.get_u (s : Par) : s.cs[4]? = some (.slice s.u.A s.u.n s.u.c):=rfl
theorem Par.putn_u (s : Par) : s.cs.setIfInBounds 4 (.slice none 0 0) = (s.set_u ⟨none,0,0⟩).cs:=rfl
@[go_sem] theorem Par.q_mode (s : Par) (a : Int) : (s.set_mode a).mode = a∧(s.set_mode a).priv = s.priv∧(s.set_mode a).p = s.p∧(s.set_mode a).i = s.i∧(s.set_mode a).u = s.u:=by repeat' constructor
@[go_sem] theorem Par.q_priv (s : Par) (a : Int) : (s.set_priv a).mode = s.mode∧(s.set_priv a).priv = a∧(s.set_priv a).p = s.p∧(s.set_priv a).i = s.i∧(s.set_priv a).u = s.u:=by repeat' constructor
@[go_sem] theorem Par.q_p (s : Par) (a : Sl) : (s.set_p a).mode = s.mode∧(s.set_p a).priv = s.priv∧(s.set_p a).p = a∧(s.set_p a).i = s.i∧(s.set_p a).u = s.u:=by repeat' constructor
@[go_sem] theorem Par.q_i (s : Par) (a : Sl) : (s.set_i a).mode = s.mode∧(s.set_i a).priv = s.priv∧(s.set_i a).p = s.p∧(s.set_i a).i = a∧(s.set_i a).u = s.u:=by repeat' constructor
@[go_sem] theorem Par.q_u (s : Par) (a : Sl) : (s.set_u a).mode = s.mode∧(s.set_u a).priv = s.priv∧(s.set_u a).p = s.p∧(s.set_u a).i = s.i∧(s.set_u a).u = a:=by repeat' constructor
structure Ac where
 kind : Int
 r : Int
 b : Int
 priv : Int
 p : Sl
 i : Sl
def Ac.cs (s : Ac) : Array Value:=#[(.int .i64 s.kind),(.int .i32 s.r),(.int .u8 s.b),(.int .u8 s.priv),(.slice s.p.A s.p.n s.p.c),(.slice s.i.A s.i.n s.i.c)]
def Ac.zero : Ac:=⟨0,0,0,0,⟨none,0,0⟩,⟨none,0,0⟩⟩
theorem Ac.size (s : Ac) : s.cs.size = 6:=rfl
theorem Ac.all (s : Ac) : s.cs.all (·.oneCell') = true:=by unfold Ac.cs;simp [Value.oneCell']
theorem Ac.infoz : (Try.prog.info? 87).map (·.zero) = some (some (.agg #[(.int .i64 0),(.int .i32 0),(.int .u8 0),(.int .u8 0),(.slice none 0 0),(.slice none 0 0)])):=by kernel_rfl
theorem Ac.infos : (Try.prog.info? 87).map (·.size) = some 6:=by kernel_rfl
theorem Ac.sizes (s : Ac) : (Try.prog.info? 87).map (·.size) = some s.cs.size:=Ac.infos
theorem Ac.get_kind (s : Ac) : s.cs[0]? = some (.int .i64 s.kind):=rfl
theorem Ac.get_r (s : Ac) : s.cs[1]? = some (.int .i32 s.r):=rfl
theorem Ac.get_b (s : Ac) : s.cs[2]? = some (.int .u8 s.b):=rfl
def Ac.set_priv (s : Ac) (a : Int) : Ac:={ s with priv:=a }
theorem Ac.get_priv (s : Ac) : s.cs[3]? = some (.int .u8 s.priv):=rfl
theorem Ac.put_priv (s : Ac) (a : Int) : s.cs.setIfInBounds 3 (.int .u8 a) = (s.set_priv a).cs:=rfl
def Ac.set_p (s : Ac) (a : Sl) : Ac:={ s with p:=a }
theorem Ac.get_p (s : Ac) : s.cs[4]? = some (.slice s.p.A s.p.n s.p.c):=rfl
theorem Ac.put_p (s : Ac) (a : Sl) : s.cs.setIfInBounds 4 (.slice a.A a.n a.c) = (s.set_p a).cs:=rfl
def Ac.set_i (s : Ac) (a : Sl) : Ac:={ s with i:=a }
theorem Ac.get_i (s : Ac) : s.cs[5]? = some (.slice s.i.A s.i.n s.i.c):=rfl
theorem Ac.put_i (s : Ac) (a : Sl) : s.cs.setIfInBounds 5 (.slice a.A a.n a.c) = (s.set_i a).cs:=rfl
end Go.Proofs.Ytooageeehallbaa.Scr
