/- Lean functions for the Go functions that the law reaches, and proofs that each call comes to just what its Lean function tells; no condition. (Written by a program of this session.) -/
import Derived.Test.YtmaefdeigienjaaProg
import Derived.Lib.LazyBuf
import Derived.Below
import Derived.Deep.Draws
import Derived.Deep.AppendLies
import Derived.Maps.AppendAt
import Derived.OwnWalk
import Derived.Laws.BytesArg
import Derived.Laws.MakeOwn
import Derived.Laws.OwnMore
import Derived.Deep.OwnRows
import Derived.Tactics
import Derived.Lib.ConvBytes
import Derived.Laws.Slices
import Derived.WalkKit
import Derived.KernelRfl
import Derived.RowKit3
import Derived.Deep.LoopGhost
import Derived.Deep.QuietTactic
import Derived.BigQuiet
import Derived.WideLaws
import Derived.Deep.DeepCutAuto
import Derived.Deep.CutBlock
import Derived.Deep.RegionHeld3
import Derived.Laws.Rows
import Derived.Lib.AppendStr
import Derived.ArgAppend
import Derived.Laws.IdiomCopy
import Derived.OrdersHeld
import Derived.Laws.BitsLemmas
import Derived.RowKit
import Derived.Lib.SlBytesConst
import Derived.Deep.WholeRow
import Derived.Test.YtmaefdeigienjaaConv
import Derived.Test.YtmaefdeigienjaaWWords
import Derived.Test.YtmaefdeigienjaaWLast
import Derived.Test.YtmaefdeigienjaaWTab
import Derived.Test.YtmaefdeigienjaaWFour
import Derived.Test.YtmaefdeigienjaaWQPut
import Derived.Test.YtmaefdeigienjaaWApart
import Derived.Test.YtmaefdeigienjaaWArr
import Derived.Test.YtmaefdeigienjaaWZeros
import Derived.Test.YtmaefdeigienjaaWFoot
import Derived.Test.YtmaefdeigienjaaWKept
import Derived.Test.YtmaefdeigienjaaWShare
import Derived.Test.YtmaefdeigienjaaWN
import Derived.Test.YtmaefdeigienjaaWFootNe
import Derived.Test.YtmaefdeigienjaaWAt
import Derived.Test.YtmaefdeigienjaaWEqStruct
import Derived.Test.YtmaefdeigienjaaWRepsOne
import Derived.Test.YtmaefdeigienjaaWInv
import Derived.Test.YtmaefdeigienjaaWInvWords
import Derived.Test.YtmaefdeigienjaaWGuard
import Derived.Test.YtmaefdeigienjaaWNEv
import Derived.Test.YtmaefdeigienjaaWMore
namespace Go.Proofs.Ytmaefdeigienjaa.QEventTells
open Go.RowKit Go.Proofs.YtmaefdeigienjaaW.PrintWords Go.Proofs.YtmaefdeigienjaaW.PrintLast Go.Proofs.YtmaefdeigienjaaW.PrintMore
attribute [local go_sem] max2_int min2_int max_two min_two max_three min_three max_four min_four   -- for this text's walks alone
set_option linter.unusedVariables false
set_option linter.unusedSimpArgs false
def errW : Option Int → Value
|none=>.nilIface
|some c=>.iface 0 (.int .i64 c)
theorem errW_none : errW none = .nilIface:=rfl
theorem errW_some (c : Int) : errW (some c) = .iface 0 (.int .i64 c):=rfl
theorem ownLen (A : Option Addr) (n m c : Nat) : (Value.slice A n c).ownBlock = (Value.slice A m c).ownBlock:=by cases A <;> rfl
theorem info2 : (Try.prog.info? 2).map (fun i=>(i.zero,i.size,i.bytes)) = some (some (.int .i64 0),1,8):=by kernel_rfl
theorem info5 : (Try.prog.info? 5).map (fun i=>(i.zero,i.size,i.bytes)) = some (some (.int .u8 0),1,1):=by kernel_rfl
theorem info9 : (Try.prog.info? 9).map (fun i=>(i.zero,i.size,i.bytes)) = some (some (.string ⟨#[]⟩),1,16):=by kernel_rfl
theorem info21 : (Try.prog.info? 21).map (fun i=>(i.zero,i.size,i.bytes)) = some (some (.int .i32 0),1,4):=by kernel_rfl
theorem info25 : (Try.prog.info? 25).map (fun i=>(i.zero,i.size,i.bytes)) = some (some (.slice none 0 0),1,24):=by kernel_rfl
theorem info30 : (Try.prog.info? 30).map (fun i=>(i.zero,i.size,i.bytes)) = some (some (.agg #[(.int .i64 0),(.int .i64 0),(.slice none 0 0),(.int .i64 0),(.int .i64 0)]),5,56):=by kernel_rfl
theorem info91 : (Try.prog.info? 91).map (fun i=>(i.zero,i.size,i.bytes)) = some (some (.agg #[(.slice none 0 0),(.string ⟨#[]⟩)]),2,40):=by kernel_rfl
-- the values' own types
def rd_L2 (xs : List (List Int)) (i : Int) : (List Int):=xs.getD i.toNat ([] : List Int)
theorem at_L2 {w : World} {A : Option Addr} {n : Nat} {xs : List (List Int)} (h : Kd.C (Kd.slice 5 (Kd.int .u8)) w A n xs) (i : Int) (h0 : 0 ≤ i) (h1 : i < n) : ∃ ad A0 c0,A = some ad∧w.cell? (ad.add i.toNat) = some (.slice A0 (rd_L2 xs i).length c0)∧(rd_L2 xs i).length ≤ c0∧(Kd.int .u8).C w A0 (rd_L2 xs i).length (rd_L2 xs i):=by
 obtain ⟨ad,c,e,_,hK,hc0⟩:=Kd.C_get h ([] : List Int) i h0 h1;have hc : ∀ j u,c[j]? = some u → w.cell? (ad.add (i.toNat * 1 + j)) = some u:=hc0;obtain ⟨A0,c0,rfl,l0,g0⟩:=hK;exact ⟨ad,A0,c0,e,by have hq:=hc 0 _ rfl;rwa [Nat.mul_one,Nat.add_zero] at hq,l0,g0⟩
/-! #### struct type 30 -/
structure S30 where
 f0 : Int
 f1 : Int
 f2 : (List Int)
 f3 : Int
 f4 : Int
def z30 : S30:=⟨(0 : Int),(0 : Int),([] : List Int),(0 : Int),(0 : Int)⟩
def k30 : Kd S30:=Kd.iso (Kd.pair (Kd.int .i64) (Kd.pair (Kd.int .i64) (Kd.pair (Kd.slice 5 (Kd.int .u8)) (Kd.pair (Kd.int .i64) (Kd.int .i64))))) (fun x : S30=>(x.f0,x.f1,x.f2,x.f3,x.f4))
theorem k30_open {w : World} {x : S30} {cs : List Value} (h : k30.K w x cs) : ∃ A2 c2,cs = [.int .i64 x.f0,.int .i64 x.f1,.slice A2 x.f2.length c2,.int .i64 x.f3,.int .i64 x.f4]∧x.f2.length ≤ c2∧(Kd.int .u8).C w A2 x.f2.length x.f2:=by
 obtain ⟨_,_,rfl,rfl,⟨_,_,rfl,rfl,⟨_,_,rfl,⟨A2,c2,rfl,l2,g2⟩,⟨_,_,rfl,rfl,rfl⟩⟩⟩⟩:=h;exact ⟨A2,c2,rfl,l2,g2⟩
theorem k30_openM {w : World} {base : Nat} {ok : Nat → Prop} {x : S30} {cs : List Value} (h : k30.M w base ok x cs) : ∃ v2,cs = [.int .i64 x.f0,.int .i64 x.f1,v2,.int .i64 x.f3,.int .i64 x.f4]∧(Kd.int .u8).R 5 w base ok v2 x.f2:=by
 obtain ⟨_,_,rfl,rfl,⟨_,_,rfl,rfl,⟨_,_,rfl,⟨v2,rfl,g2⟩,⟨_,_,rfl,rfl,rfl⟩⟩⟩⟩:=h;exact ⟨v2,rfl,g2⟩
theorem k30_mk (w : World) (x : S30) {A2 : Option Addr} {c2 : Nat} (l2 : x.f2.length ≤ c2) (g2 : (Kd.int .u8).C w A2 x.f2.length x.f2) : k30.K w x [.int .i64 x.f0,.int .i64 x.f1,.slice A2 x.f2.length c2,.int .i64 x.f3,.int .i64 x.f4]:=⟨[.int .i64 x.f0],[.int .i64 x.f1,.slice A2 x.f2.length c2,.int .i64 x.f3,.int .i64 x.f4],rfl,rfl,⟨[.int .i64 x.f1],[.slice A2 x.f2.length c2,.int .i64 x.f3,.int .i64 x.f4],rfl,rfl,⟨[.slice A2 x.f2.length c2],[.int .i64 x.f3,.int .i64 x.f4],rfl,⟨A2,c2,rfl,l2,g2⟩,⟨[.int .i64 x.f3],[.int .i64 x.f4],rfl,rfl,rfl⟩⟩⟩⟩
theorem k30_mkM (w : World) (base : Nat) (ok : Nat → Prop) (x : S30) {v2 : Value} (g2 : (Kd.int .u8).R 5 w base ok v2 x.f2) : k30.M w base ok x [.int .i64 x.f0,.int .i64 x.f1,v2,.int .i64 x.f3,.int .i64 x.f4]:=⟨[.int .i64 x.f0],[.int .i64 x.f1,v2,.int .i64 x.f3,.int .i64 x.f4],rfl,rfl,⟨[.int .i64 x.f1],[v2,.int .i64 x.f3,.int .i64 x.f4],rfl,rfl,⟨[v2],[.int .i64 x.f3,.int .i64 x.f4],rfl,⟨v2,rfl,g2⟩,⟨[.int .i64 x.f3],[.int .i64 x.f4],rfl,rfl,rfl⟩⟩⟩⟩
theorem k30_openF {W : World} {ok : Nat → Prop} {x : S30} {cs : List Value} (h : Kd.FK k30 W ok x cs) : ∃ A2 c2,cs = [.int .i64 x.f0,.int .i64 x.f1,.slice A2 x.f2.length c2,.int .i64 x.f3,.int .i64 x.f4]∧x.f2.length ≤ c2∧Kd.F (Kd.int .u8) W ok A2 x.f2.length x.f2:=by
 obtain ⟨A2,c2,rfl,l2,_⟩:=k30_open (Kd.FK_now h);exact ⟨A2,c2,rfl,l2,(fun W' hW=>by obtain ⟨A2_,c2_,he,l2_,g2_⟩:=k30_open (h W' hW);injection (Option.some.inj (show some (Value.slice A2 x.f2.length c2) = some (Value.slice A2_ x.f2.length c2_) from congrArg (fun l=>l[2]?) he)) with ha_ _ _;rw [ha_];exact g2_)⟩
theorem k30_mkF (W : World) (ok : Nat → Prop) (x : S30) {A2 : Option Addr} {c2 : Nat} (l2 : x.f2.length ≤ c2) (g2 : Kd.F (Kd.int .u8) W ok A2 x.f2.length x.f2) : Kd.FK k30 W ok x [.int .i64 x.f0,.int .i64 x.f1,.slice A2 x.f2.length c2,.int .i64 x.f3,.int .i64 x.f4]:=fun W2 hW=>k30_mk W2 x l2 (g2 W2 hW)
def rd_T30 (xs : List S30) (i : Int) : S30:=xs.getD i.toNat z30
theorem at_T30 {w : World} {A : Option Addr} {n : Nat} {xs : List S30} (h : Kd.C k30 w A n xs) (i : Int) (h0 : 0 ≤ i) (h1 : i < n) : ∃ ad A2 c2,A = some ad∧w.cell? (ad.add (i.toNat * 5)) = some (.int .i64 (rd_T30 xs i).f0)∧w.cell? ⟨(ad.add (i.toNat * 5)).block,(ad.add (i.toNat * 5)).off + 1,none⟩ = some (.int .i64 (rd_T30 xs i).f1)∧w.cell? ⟨(ad.add (i.toNat * 5)).block,(ad.add (i.toNat * 5)).off + 2,none⟩ = some (.slice A2 (rd_T30 xs i).f2.length c2)∧w.cell? ⟨(ad.add (i.toNat * 5)).block,(ad.add (i.toNat * 5)).off + 3,none⟩ = some (.int .i64 (rd_T30 xs i).f3)∧w.cell? ⟨(ad.add (i.toNat * 5)).block,(ad.add (i.toNat * 5)).off + 4,none⟩ = some (.int .i64 (rd_T30 xs i).f4)∧(rd_T30 xs i).f2.length ≤ c2∧(Kd.int .u8).C w A2 (rd_T30 xs i).f2.length (rd_T30 xs i).f2:=by
 obtain ⟨ad,c,e,_,hK,hc0⟩:=Kd.C_get h z30 i h0 h1;have hc : ∀ j u,c[j]? = some u → w.cell? (ad.add (i.toNat * 5 + j)) = some u:=hc0;obtain ⟨A2,c2,rfl,l2,g2⟩:=k30_open hK;exact ⟨ad,A2,c2,e,hc 0 _ rfl,by rw [← add_field _ _ 1 (by omega)];exact hc 1 _ rfl,by rw [← add_field _ _ 2 (by omega)];exact hc 2 _ rfl,by rw [← add_field _ _ 3 (by omega)];exact hc 3 _ rfl,by rw [← add_field _ _ 4 (by omega)];exact hc 4 _ rfl,l2,g2⟩
/-! #### struct type 91 -/
structure S91 where
 f0 : (List Int)
 f1 : ByteArray
def z91 : S91:=⟨([] : List Int),(⟨#[]⟩ : ByteArray)⟩
def k91 : Kd S91:=Kd.iso (Kd.pair (Kd.slice 5 (Kd.int .u8)) Kd.string) (fun x : S91=>(x.f0,x.f1))
theorem k91_open {w : World} {x : S91} {cs : List Value} (h : k91.K w x cs) : ∃ A0 c0,cs = [.slice A0 x.f0.length c0,.string x.f1]∧x.f0.length ≤ c0∧(Kd.int .u8).C w A0 x.f0.length x.f0:=by
 obtain ⟨_,_,rfl,⟨A0,c0,rfl,l0,g0⟩,rfl⟩:=h;exact ⟨A0,c0,rfl,l0,g0⟩
theorem k91_openM {w : World} {base : Nat} {ok : Nat → Prop} {x : S91} {cs : List Value} (h : k91.M w base ok x cs) : ∃ v0,cs = [v0,.string x.f1]∧(Kd.int .u8).R 5 w base ok v0 x.f0:=by
 obtain ⟨_,_,rfl,⟨v0,rfl,g0⟩,rfl⟩:=h;exact ⟨v0,rfl,g0⟩
theorem k91_mk (w : World) (x : S91) {A0 : Option Addr} {c0 : Nat} (l0 : x.f0.length ≤ c0) (g0 : (Kd.int .u8).C w A0 x.f0.length x.f0) : k91.K w x [.slice A0 x.f0.length c0,.string x.f1]:=⟨[.slice A0 x.f0.length c0],[.string x.f1],rfl,⟨A0,c0,rfl,l0,g0⟩,rfl⟩
theorem k91_mkM (w : World) (base : Nat) (ok : Nat → Prop) (x : S91) {v0 : Value} (g0 : (Kd.int .u8).R 5 w base ok v0 x.f0) : k91.M w base ok x [v0,.string x.f1]:=⟨[v0],[.string x.f1],rfl,⟨v0,rfl,g0⟩,rfl⟩
theorem k91_openF {W : World} {ok : Nat → Prop} {x : S91} {cs : List Value} (h : Kd.FK k91 W ok x cs) : ∃ A0 c0,cs = [.slice A0 x.f0.length c0,.string x.f1]∧x.f0.length ≤ c0∧Kd.F (Kd.int .u8) W ok A0 x.f0.length x.f0:=by
 obtain ⟨A0,c0,rfl,l0,_⟩:=k91_open (Kd.FK_now h);exact ⟨A0,c0,rfl,l0,(fun W' hW=>by obtain ⟨A0_,c0_,he,l0_,g0_⟩:=k91_open (h W' hW);injection (Option.some.inj (show some (Value.slice A0 x.f0.length c0) = some (Value.slice A0_ x.f0.length c0_) from congrArg (fun l=>l[0]?) he)) with ha_ _ _;rw [ha_];exact g0_)⟩
theorem k91_mkF (W : World) (ok : Nat → Prop) (x : S91) {A0 : Option Addr} {c0 : Nat} (l0 : x.f0.length ≤ c0) (g0 : Kd.F (Kd.int .u8) W ok A0 x.f0.length x.f0) : Kd.FK k91 W ok x [.slice A0 x.f0.length c0,.string x.f1]:=fun W2 hW=>k91_mk W2 x l0 (g0 W2 hW)
def rd_T91 (xs : List S91) (i : Int) : S91:=xs.getD i.toNat z91
theorem at_T91 {w : World} {A : Option Addr} {n : Nat} {xs : List S91} (h : Kd.C k91 w A n xs) (i : Int) (h0 : 0 ≤ i) (h1 : i < n) : ∃ ad A0 c0,A = some ad∧w.cell? (ad.add (i.toNat * 2)) = some (.slice A0 (rd_T91 xs i).f0.length c0)∧w.cell? ⟨(ad.add (i.toNat * 2)).block,(ad.add (i.toNat * 2)).off + 1,none⟩ = some (.string (rd_T91 xs i).f1)∧(rd_T91 xs i).f0.length ≤ c0∧(Kd.int .u8).C w A0 (rd_T91 xs i).f0.length (rd_T91 xs i).f0:=by
 obtain ⟨ad,c,e,_,hK,hc0⟩:=Kd.C_get h z91 i h0 h1;have hc : ∀ j u,c[j]? = some u → w.cell? (ad.add (i.toNat * 2 + j)) = some u:=hc0;obtain ⟨A0,c0,rfl,l0,g0⟩:=k91_open hK;exact ⟨ad,A0,c0,e,hc 0 _ rfl,by rw [← add_field _ _ 1 (by omega)];exact hc 1 _ rfl,l0,g0⟩
def rd_L7 (xs : List (List S30)) (i : Int) : (List S30):=xs.getD i.toNat ([] : List S30)
theorem at_L7 {w : World} {A : Option Addr} {n : Nat} {xs : List (List S30)} (h : Kd.C (Kd.slice 30 k30) w A n xs) (i : Int) (h0 : 0 ≤ i) (h1 : i < n) : ∃ ad A0 c0,A = some ad∧w.cell? (ad.add i.toNat) = some (.slice A0 (rd_L7 xs i).length c0)∧(rd_L7 xs i).length ≤ c0∧k30.C w A0 (rd_L7 xs i).length (rd_L7 xs i):=by
 obtain ⟨ad,c,e,_,hK,hc0⟩:=Kd.C_get h ([] : List S30) i h0 h1;have hc : ∀ j u,c[j]? = some u → w.cell? (ad.add (i.toNat * 1 + j)) = some u:=hc0;obtain ⟨A0,c0,rfl,l0,g0⟩:=hK;exact ⟨ad,A0,c0,e,by have hq:=hc 0 _ rfl;rwa [Nat.mul_one,Nat.add_zero] at hq,l0,g0⟩
abbrev zd := @blk_drewN
abbrev ze := @blk_drew
abbrev zf := @blk_alloc
abbrev zg := @below_alloc
abbrev zh := @pw_below_drewN
abbrev zi := @below_drew1
abbrev zj := @below_set
abbrev zk := @Kd.R_alloc
abbrev zl := @Kd.R_drewN
abbrev zm := @Kd.R_drew
abbrev zn := @Kd.V_alloc
abbrev zo := @Kd.V_drewN
abbrev zp := @Kd.V_drew
abbrev zq := @Kd.N_alloc
abbrev zr := @Kd.N_drewN
abbrev zs := @Kd.N_drew
abbrev zt := @Aside0.mk
abbrev zu := @blk_cell
abbrev zv := @blk_frozen
end Go.Proofs.Ytmaefdeigienjaa.QEventTells
