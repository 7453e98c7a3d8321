/- Parts of the claim's proof, merged; no condition beyond what each theorem states. -/
import Derived.Test.YtooageeehallbaaProg
import Derived.Lib.LazyBuf
import Derived.Below
import Derived.Deep.Draws
import Derived.Deep.AppendLies
import Derived.Maps.AppendAt
import Derived.OwnWalk
import Derived.Laws.BytesArg
import Derived.Laws.MakeOwn
import Derived.Laws.OwnMore
import Derived.Deep.OwnRows
import Derived.Tactics
import Derived.Lib.ConvBytes
import Derived.Laws.Slices
import Derived.WalkKit
import Derived.KernelRfl
import Derived.RowKit3
import Derived.Deep.LoopGhost
import Derived.Deep.QuietTactic
import Derived.BigQuiet
import Derived.WideLaws
import Derived.Deep.DeepCutAuto
import Derived.Deep.CutBlock
import Derived.Deep.RegionHeld3
import Derived.Laws.Rows
import Derived.Lib.AppendStr
import Derived.ArgAppend
import Derived.Laws.IdiomCopy
import Derived.OrdersHeld
import Derived.Laws.BitsLemmas
import Derived.RowKit
import Derived.Lib.SlBytesConst
import Derived.Deep.WholeRow
import Derived.Test.YtooageeehallbaaWWords
import Derived.Test.YtooageeehallbaaWLast
import Derived.Test.YtooageeehallbaaWTab
import Derived.Test.YtooageeehallbaaWFour
import Derived.Test.YtooageeehallbaaWQPut
import Derived.Test.YtooageeehallbaaWApart
import Derived.Test.YtooageeehallbaaWArr
import Derived.Test.YtooageeehallbaaWZeros
import Derived.Test.YtooageeehallbaaWFoot
import Derived.Test.YtooageeehallbaaWKept
import Derived.Test.YtooageeehallbaaWShare
import Derived.Test.YtooageeehallbaaWN
import Derived.Test.YtooageeehallbaaWFootNe
import Derived.Test.YtooageeehallbaaWAt
import Derived.Test.YtooageeehallbaaWEqStruct
import Derived.Test.YtooageeehallbaaWRepsOne
import Derived.Test.YtooageeehallbaaWInv
import Derived.Test.YtooageeehallbaaWInvWords
import Derived.Test.YtooageeehallbaaWGuard
import Derived.Test.YtooageeehallbaaWNEv
import Derived.Test.YtooageeehallbaaWMore
import Derived.Laws.Tables
import Derived.Laws.CopyOwn
namespace Go.Proofs.Ytooageeehallbaa
open Go Go.RowKit Go.Proofs.YtooageeehallbaaW.PrintWords Go.Proofs.YtooageeehallbaaW.PrintLast Go.Proofs.YtooageeehallbaaW.PrintMore
abbrev zY := @Option.some.inj
end Go.Proofs.Ytooageeehallbaa
namespace Go.Proofs.Ytooageeehallbaa.QRunsCut
open Go.RowKit Go.Proofs.YtooageeehallbaaW.PrintWords Go.Proofs.YtooageeehallbaaW.PrintLast Go.Proofs.YtooageeehallbaaW.PrintMore
attribute [local go_sem] max2_int min2_int max_two min_two max_three min_three max_four min_four   -- for this text's walks alone
set_option linter.unusedVariables false
set_option linter.unusedSimpArgs false
def errW : Option Int → Value
|none=>.nilIface
|some c=>.iface 0 (.int .i64 c)
theorem errW_none : errW none = .nilIface:=rfl
theorem errW_some (c : Int) : errW (some c) = .iface 0 (.int .i64 c):=rfl
theorem info3 : (Try.prog.info? 3).map (fun i=>(i.zero,i.size,i.bytes)) = some (some (.int .i64 0),1,8):=by kernel_rfl
theorem info4 : (Try.prog.info? 4).map (fun i=>(i.zero,i.size,i.bytes)) = some (some (.bool false),1,1):=by kernel_rfl
theorem info5 : (Try.prog.info? 5).map (fun i=>(i.zero,i.size,i.bytes)) = some (some (.int .u8 0),1,1):=by kernel_rfl
theorem info21 : (Try.prog.info? 21).map (fun i=>(i.zero,i.size,i.bytes)) = some (some (.int .i32 0),1,4):=by kernel_rfl
theorem info35 : (Try.prog.info? 35).map (fun i=>(i.zero,i.size,i.bytes)) = some (some (.agg #[(.int .i32 0),(.int .u16 0),(.int .u8 0)]),3,8):=by kernel_rfl
theorem info87 : (Try.prog.info? 87).map (fun i=>(i.zero,i.size,i.bytes)) = some (some (.agg #[(.int .i64 0),(.int .i32 0),(.int .u8 0),(.int .u8 0),(.slice none 0 0),(.slice none 0 0)]),6,64):=by kernel_rfl
-- the values' own types
/-! #### struct type 35 -/
structure S35 where
 f0 : Int
 f1 : Int
 f2 : Int
def z35 : S35:=⟨(0 : Int),(0 : Int),(0 : Int)⟩
def k35 : Kd S35:=Kd.iso (Kd.pair (Kd.int .i32) (Kd.pair (Kd.int .u16) (Kd.int .u8))) (fun x : S35=>(x.f0,x.f1,x.f2))
theorem k35_open {w : World} {x : S35} {cs : List Value} (h : k35.K w x cs) : cs = [.int .i32 x.f0,.int .u16 x.f1,.int .u8 x.f2]:=by
 obtain ⟨_,_,rfl,rfl,⟨_,_,rfl,rfl,rfl⟩⟩:=h;exact rfl
theorem k35_openM {w : World} {base : Nat} {ok : Nat → Prop} {x : S35} {cs : List Value} (h : k35.M w base ok x cs) : cs = [.int .i32 x.f0,.int .u16 x.f1,.int .u8 x.f2]:=by
 obtain ⟨_,_,rfl,rfl,⟨_,_,rfl,rfl,rfl⟩⟩:=h;exact rfl
theorem k35_mkM (w : World) (base : Nat) (ok : Nat → Prop) (x : S35)  : k35.M w base ok x [.int .i32 x.f0,.int .u16 x.f1,.int .u8 x.f2]:=⟨[.int .i32 x.f0],[.int .u16 x.f1,.int .u8 x.f2],rfl,rfl,⟨[.int .u16 x.f1],[.int .u8 x.f2],rfl,rfl,rfl⟩⟩
def rd_T35 (xs : List S35) (i : Int) : S35:=xs.getD i.toNat z35
theorem at_T35 {w : World} {A : Option Addr} {n : Nat} {xs : List S35} (h : Kd.C k35 w A n xs) (i : Int) (h0 : 0 ≤ i) (h1 : i < n) : ∃ ad ,A = some ad∧w.cell? (ad.add (i.toNat * 3)) = some (.int .i32 (rd_T35 xs i).f0)∧w.cell? ⟨(ad.add (i.toNat * 3)).block,(ad.add (i.toNat * 3)).off + 1,none⟩ = some (.int .u16 (rd_T35 xs i).f1)∧w.cell? ⟨(ad.add (i.toNat * 3)).block,(ad.add (i.toNat * 3)).off + 2,none⟩ = some (.int .u8 (rd_T35 xs i).f2):=by
 obtain ⟨ad,c,e,_,hK,hc0⟩:=Kd.C_get h z35 i h0 h1;have hc : ∀ j u,c[j]? = some u → w.cell? (ad.add (i.toNat * 3 + j)) = some u:=hc0;obtain rfl:=k35_open hK;exact ⟨ad,e,hc 0 _ rfl,by rw [← add_field _ _ 1 (by omega)];exact hc 1 _ rfl,by rw [← add_field _ _ 2 (by omega)];exact hc 2 _ rfl⟩
/-! #### struct type 87 -/
structure S87 where
 f0 : Int
 f1 : Int
 f2 : Int
 f3 : Int
 f4 : (List Int)
 f5 : (List Int)
def z87 : S87:=⟨(0 : Int),(0 : Int),(0 : Int),(0 : Int),([] : List Int),([] : List Int)⟩
def k87 : Kd S87:=Kd.iso (Kd.pair (Kd.int .i64) (Kd.pair (Kd.int .i32) (Kd.pair (Kd.int .u8) (Kd.pair (Kd.int .u8) (Kd.pair (Kd.slice 3 (Kd.int .i64)) (Kd.slice 5 (Kd.int .u8))))))) (fun x : S87=>(x.f0,x.f1,x.f2,x.f3,x.f4,x.f5))
theorem k87_open {w : World} {x : S87} {cs : List Value} (h : k87.K w x cs) : ∃ A4 c4 A5 c5,cs = [.int .i64 x.f0,.int .i32 x.f1,.int .u8 x.f2,.int .u8 x.f3,.slice A4 x.f4.length c4,.slice A5 x.f5.length c5]∧x.f4.length ≤ c4∧(Kd.int .i64).C w A4 x.f4.length x.f4∧x.f5.length ≤ c5∧(Kd.int .u8).C w A5 x.f5.length x.f5:=by
 obtain ⟨_,_,rfl,rfl,⟨_,_,rfl,rfl,⟨_,_,rfl,rfl,⟨_,_,rfl,rfl,⟨_,_,rfl,⟨A4,c4,rfl,l4,g4⟩,⟨A5,c5,rfl,l5,g5⟩⟩⟩⟩⟩⟩:=h;exact ⟨A4,c4,A5,c5,rfl,l4,g4,l5,g5⟩
theorem k87_mk (w : World) (x : S87) {A4 : Option Addr} {c4 : Nat} (l4 : x.f4.length ≤ c4) (g4 : (Kd.int .i64).C w A4 x.f4.length x.f4) {A5 : Option Addr} {c5 : Nat} (l5 : x.f5.length ≤ c5) (g5 : (Kd.int .u8).C w A5 x.f5.length x.f5) : k87.K w x [.int .i64 x.f0,.int .i32 x.f1,.int .u8 x.f2,.int .u8 x.f3,.slice A4 x.f4.length c4,.slice A5 x.f5.length c5]:=⟨[.int .i64 x.f0],[.int .i32 x.f1,.int .u8 x.f2,.int .u8 x.f3,.slice A4 x.f4.length c4,.slice A5 x.f5.length c5],rfl,rfl,⟨[.int .i32 x.f1],[.int .u8 x.f2,.int .u8 x.f3,.slice A4 x.f4.length c4,.slice A5 x.f5.length c5],rfl,rfl,⟨[.int .u8 x.f2],[.int .u8 x.f3,.slice A4 x.f4.length c4,.slice A5 x.f5.length c5],rfl,rfl,⟨[.int .u8 x.f3],[.slice A4 x.f4.length c4,.slice A5 x.f5.length c5],rfl,rfl,⟨[.slice A4 x.f4.length c4],[.slice A5 x.f5.length c5],rfl,⟨A4,c4,rfl,l4,g4⟩,⟨A5,c5,rfl,l5,g5⟩⟩⟩⟩⟩⟩
theorem k87_mkM (w : World) (base : Nat) (ok : Nat → Prop) (x : S87) {v4 : Value} (g4 : (Kd.int .i64).R 3 w base ok v4 x.f4) {v5 : Value} (g5 : (Kd.int .u8).R 5 w base ok v5 x.f5) : k87.M w base ok x [.int .i64 x.f0,.int .i32 x.f1,.int .u8 x.f2,.int .u8 x.f3,v4,v5]:=⟨[.int .i64 x.f0],[.int .i32 x.f1,.int .u8 x.f2,.int .u8 x.f3,v4,v5],rfl,rfl,⟨[.int .i32 x.f1],[.int .u8 x.f2,.int .u8 x.f3,v4,v5],rfl,rfl,⟨[.int .u8 x.f2],[.int .u8 x.f3,v4,v5],rfl,rfl,⟨[.int .u8 x.f3],[v4,v5],rfl,rfl,⟨[v4],[v5],rfl,⟨v4,rfl,g4⟩,⟨v5,rfl,g5⟩⟩⟩⟩⟩⟩
theorem k87_openF {W : World} {ok : Nat → Prop} {x : S87} {cs : List Value} (h : Kd.FK k87 W ok x cs) : ∃ A4 c4 A5 c5,cs = [.int .i64 x.f0,.int .i32 x.f1,.int .u8 x.f2,.int .u8 x.f3,.slice A4 x.f4.length c4,.slice A5 x.f5.length c5]∧x.f4.length ≤ c4∧Kd.F (Kd.int .i64) W ok A4 x.f4.length x.f4∧x.f5.length ≤ c5∧Kd.F (Kd.int .u8) W ok A5 x.f5.length x.f5:=by
 obtain ⟨A4,c4,A5,c5,rfl,l4,_,l5,_⟩:=k87_open (Kd.FK_now h);exact ⟨A4,c4,A5,c5,rfl,l4,(fun W' hW=>by obtain ⟨A4_,c4_,A5_,c5_,he,l4_,g4_,l5_,g5_⟩:=k87_open (h W' hW);injection (zY (show some (Value.slice A4 x.f4.length c4) = some (Value.slice A4_ x.f4.length c4_) from congrArg (fun l=>l[4]?) he)) with ha_ _ _;rw [ha_];exact g4_),l5,(fun W' hW=>by obtain ⟨A4_,c4_,A5_,c5_,he,l4_,g4_,l5_,g5_⟩:=k87_open (h W' hW);injection (zY (show some (Value.slice A5 x.f5.length c5) = some (Value.slice A5_ x.f5.length c5_) from congrArg (fun l=>l[5]?) he)) with ha_ _ _;rw [ha_];exact g5_)⟩
theorem cx {w W : World} {ad : Addr} {v : Value} (hb : Aside0 (Below w.heap.size w W)) (h : w.cell? ad = some v) : W.cell? ad = some v:=(hb.out.cell (World.block_lt_of_cell? w _ h)).trans h
theorem od {p : Prop} [Decidable p] (h : decide p = true:=by with_reducible assumption) : p:=of_decide_eq_true h
end Go.Proofs.Ytooageeehallbaa.QRunsCut
namespace Go.Proofs.Ytooageeehallbaa
open Go Go.RowKit Go.Proofs.YtooageeehallbaaW.PrintWords Go.Proofs.YtooageeehallbaaW.PrintLast Go.Proofs.YtooageeehallbaaW.PrintMore
abbrev zB := @cell_of_row
end Go.Proofs.Ytooageeehallbaa
namespace Go.Proofs.Ytooageeehallbaa.Scr
open Go.RowKit Go.Proofs.YtooageeehallbaaW.PrintWords Go.Proofs.YtooageeehallbaaW.PrintLast Go.Proofs.YtooageeehallbaaW.PrintMore
set_option linter.unusedVariables false
set_option linter.unusedSimpArgs false
/-- Footprint facts: moved,widened,bounded. -/
structure Mvb (F : World → (Nat → Prop) → Prop) : Prop where
 step : ∀ {W w1 : World} {ok : Nat → Prop},F W ok → (∀ k,ok k → k < W.heap.size → w1.heap[k]? = W.heap[k]?) → F w1 ok
 mono : ∀ {W : World} {ok ok' : Nat → Prop},F W ok → (∀ k,ok k → ok' k) → F W ok'
 bound : ∀ {W : World} {ok : Nat → Prop},F W ok → F W (fun k=>ok k∧k < W.heap.size)
def Nb (ok : Nat → Prop) (n : Nat) (gs : List Nat) : Nat → Prop:=fun k=>(ok k∨n ≤ k)∧k ∉ gs
theorem nb_ne {ok : Nat → Prop} {n k g : Nat} {gs : List Nat} (h : Nb ok n gs k) (hm : g ∈ gs) : some k ≠ some g:=by
 intro e;injection e with e
 subst e;exact h.2 hm
section
variable {F : World → (Nat → Prop) → Prop} {W w1 w0 : World} {ok ok' : Nat → Prop} {n g t : Nat} {gs : List Nat} {cs : Array Value}
structure Bx (n : Nat) (t : TypeId) (g : Nat) (W : World) (cs : Array Value) : Prop where
 hg : n ≤ g
 bx : W.heap[g]? = some (.cells cs t (0,0))
theorem Bx.lt (b : Bx n t g W cs) : g < W.heap.size:=(Array.getElem?_eq_some_iff.1 b.bx).1
theorem Mvb.grown (m : Mvb F) (h : F W (Nb ok n gs)) (hg : W.grownBy w1 (some g)) (hm : g ∈ gs) : F w1 (Nb ok n gs):=m.step h (fun k hk hlt=>hg.block k hlt (nb_ne hk hm))
theorem Mvb.call (m : Mvb F) (h : F W ok) (hb : Below W.heap.size W w1) : F w1 ok:=m.step h (fun k _ hlt=>hb.block k hlt)
/-- A new block. -/
theorem Mvb.fresh (m : Mvb F) (h : F W (Nb ok n gs)) (hN : W.heap.size = g) (hg : W.grownBy w1 none) : F w1 (Nb ok n (g :: gs)) :=
 m.mono (m.step (m.bound h) (fun k _ hlt=>hg.block k hlt (by simp))) (fun k hk=>⟨hk.1.1,by
  intro hm;rcases List.mem_cons.1 hm with he|hm
  ·have:=hk.2;omega
  ·exact hk.1.2 hm⟩)
theorem Mvb.drop (m : Mvb F) (h : F W (Nb ok n (g :: gs))) : F W (Nb ok n gs):=m.mono h (fun k hk=>⟨hk.1,fun hm=>hk.2 (List.mem_cons_of_mem _ hm)⟩)
theorem Mvb.enter (m : Mvb F) (h : F W ok) (hn : W.heap.size = n) : F W (Nb ok n []):=m.mono h (fun k hk=>⟨.inl hk,by simp⟩)
/-- What a call handed back: its blocks are elder ones of ours,or new. -/
theorem Mvb.back (m : Mvb F) (h : F w1 (fun k=>Nb ok n gs k∨W.heap.size ≤ k)) (hn : n ≤ W.heap.size) (hgs : ∀ g,g ∈ gs → g < W.heap.size) : F w1 (Nb ok n gs) :=
 m.mono h (fun k hk=>by
  rcases hk with hk|hk
  ·exact hk
  ·exact ⟨.inr (by omega),fun hm=>by have:=hgs k hm;omega⟩)
theorem Mvb.new (m : Mvb F) (h : F w1 (fun k=>W.heap.size ≤ k)) (hn : n ≤ W.heap.size) (hgs : ∀ g,g ∈ gs → g < W.heap.size) : F w1 (Nb ok n gs) :=
 m.back (ok:=ok) (n:=n) (gs:=gs) (m.mono h (fun k hk=>.inr hk)) hn hgs
theorem Mvb.out (m : Mvb F) (h : F W (Nb ok n gs)) : F W (fun k=>ok k∨n ≤ k):=m.mono h (fun _ hk=>hk.1)
theorem bx_far {g' t' : Nat} {cs' : Array Value} (b : Bx n t' g' W cs') (hg : W.grownBy w1 (some g)) (hne : g' ≠ g) : Bx n t' g' w1 cs' :=
 ⟨b.hg,(hg.block g' b.lt (by intro e;injection e with e;exact hne e)).trans b.bx⟩
theorem bx_kept (b : Bx n t g W cs) {row : Option Nat} (hg : W.grownBy w1 row) (hne : some g ≠ row) : Bx n t g w1 cs:=⟨b.hg,(hg.block g b.lt hne).trans b.bx⟩
theorem bx_new (b : Bx n t g W cs) (hg : W.grownBy w1 none) : Bx n t g w1 cs:=⟨b.hg,(hg.block g b.lt (by simp)).trans b.bx⟩
theorem bx_call (b : Bx n t g W cs) (hb : Below W.heap.size W w1) : Bx n t g w1 cs:=⟨b.hg,(hb.block g b.lt).trans b.bx⟩
theorem hb_grown (hb : Below n w0 W) (b : Bx n t g W cs) (hg : W.grownBy w1 (some g)) : Below n w0 w1 :=
 hb.grown hg (Nat.le_trans b.hg (Nat.le_of_lt b.lt)) (by rintro k h;injection h with h;subst h;exact b.hg)
theorem hb_new (hb : Below n w0 W) (hn : n ≤ W.heap.size) (hg : W.grownBy w1 none) : Below n w0 w1:=hb.grown hg hn (by simp)
theorem hb_call (hb : Below n w0 W) (hn : n ≤ W.heap.size) (hc : Below W.heap.size W w1) : Below n w0 w1:=hb.trans (hc.mono hn)
end
section
variable {P : Program} {ops : Array Oper} {rest : List Oper} {o : Oper} {a : Act} {W : World} {Q : Exit → Act → World → Prop} {n g : Nat} {cs : Array Value} {t : TypeId}
theorem grown_alloc (W : World) (ob : Obj) : W.grownBy (W.alloc ob) none:=⟨rfl,rfl,rfl,by simp,fun k hk _=>Below.heap_alloc _ _ _ hk⟩
theorem bx_box (hgd : o.guard = none) {N : Tmp} (hd : o.dst = some N) {x : Operand} (ho : o.op = .box t x) {cs : Array Value} (hx : a.eval x = .agg cs) (hn : n ≤ W.heap.size)
 (h : ∀ g w1,W.heap.size = g → W.grownBy w1 none → Bx n t g w1 cs → wpList P ops Q rest (a.put (some N) (.pointer (some ⟨g,0,none⟩))) w1) : wpList P ops Q (o :: rest) a W:=by
 refine wpList_plain hgd fun K hK=>?_
 unfold Oper.wp execOp;simp only [ho,hx,Sem.run_bind,Instr.box,newVar,newRow,run_newObj_alloc,Sem.run_pure,Result.andThen_ok];refine hK _ _ (hd ▸ h W.heap.size _ rfl (grown_alloc W _) ⟨hn,?_⟩);exact heap_alloc_new W _
theorem bx_alloc (hgd : o.guard = none) {N : Tmp} (hd : o.dst = some N) (ho : o.op = .alloc t) {cs : Array Value} (hz : (P.info? t).map (·.zero) = some (some (.agg cs))) (hn : n ≤ W.heap.size)
 (h : ∀ g w1,W.heap.size = g → W.grownBy w1 none → Bx n t g w1 cs → wpList P ops Q rest (a.put (some N) (.pointer (some ⟨g,0,none⟩))) w1) : wpList P ops Q (o :: rest) a W:=by
 refine wpList_plain hgd fun K hK=>?_
 cases hq : P.info? t with
|none=>simp [hq] at hz
|some i =>
  have hi : i.zero = some (.agg cs):=by simpa [hq] using hz
  unfold Oper.wp execOp;simp only [ho,Sem.run_bind,Instr.alloc,zeroValue,typeInfo,hq,hi,run_program,newVar,newRow,run_newObj_alloc,Sem.run_pure,Result.andThen_ok];refine hK _ _ (hd ▸ h W.heap.size _ rfl (grown_alloc W _) ⟨hn,?_⟩);exact heap_alloc_new W _
theorem bx_get (b : Bx n t g W cs) (hgd : o.guard = none) {N : Tmp} (hd : o.dst = some N) {ty : TypeId} {x : Operand} (ho : o.op = .load ty x) {j : Nat} (hx : a.eval x = .pointer (some ⟨g,j,none⟩))
 {d : TypeDesc} (hu : P.underlying ty = some d) (hty : (match d with|.struct _|.array _ _=>true|_=>false) = false) {v : Value} (hv : cs[j]? = some v)
 (h : wpList P ops Q rest (a.put (some N) v) W) : wpList P ops Q (o :: rest) a W:=by
 refine wpList_plain hgd fun K hK=>?_
 have hc : W.cell? ⟨g,j,none⟩ = some v:=(zB W g j cs t (0,0) b.bx).trans hv;have hagg : (isAgg ty).run P W = .ok false W:=by
  unfold isAgg;rw [Sem.run_bind,run_underlying hu W];cases d <;> simp_all
 unfold Oper.wp execOp;simp only [ho,hx,Instr.loadAt,Instr.sureAddr,loadVar,Sem.run_bind,Sem.run_pure,Result.andThen_ok,hagg,Bool.false_eq_true,if_false,run_load,hc];exact hK _ _ (hd ▸ h)
theorem bx_load (b : Bx n t g W cs) (hgd : o.guard = none) {N : Tmp} (hd : o.dst = some N) {ty : TypeId} {x : Operand} (ho : o.op = .load ty x) (hx : a.eval x = .pointer (some ⟨g,0,none⟩))
 {d : TypeDesc} (hu : P.underlying ty = some d) (hty : (match d with|.struct _|.array _ _=>true|_=>false) = true) (hi : (P.info? ty).map (·.size) = some cs.size)
 (h : wpList P ops Q rest (a.put (some N) (.agg cs)) W) : wpList P ops Q (o :: rest) a W :=
 wpList_load_row hgd ty x ho g hx t cs (0,0) d b.bx hu hty hi (hd ▸ h)
theorem grown_setRow (W : World) (g : Nat) (cs : Array Value) : W.grownBy (W.setRow g cs) (some g):=⟨rfl,rfl,rfl,by simp,fun k _ hne=>setRow_other W g k cs (fun e=>hne (by rw [e]))⟩
theorem bx_put (b : Bx n t g W cs) (hgd : o.guard = none) (hd : o.dst = none) {ty : TypeId} {x y : Operand} (ho : o.op = .store ty x y) {j : Nat} (hx : a.eval x = .pointer (some ⟨g,j,none⟩)) {v : Value} (hy : a.eval y = v)
 (h1 : v.oneCell' = true) (hc : v.cells = #[v]) (hi : (P.info? ty).map (·.size) = some 1) {u : Value} (hu : cs[j]? = some u) {cs' : Array Value} (hs : cs.setIfInBounds j v = cs')
 (h : ∀ w1,W.grownBy w1 (some g) → Bx n t g w1 cs' → wpList P ops Q rest a w1) : wpList P ops Q (o :: rest) a W:=by
 refine wpList_plain hgd fun K hK=>?_
 have hcell : W.cell? ⟨g,j,none⟩ = some u:=(zB W g j cs t (0,0) b.bx).trans hu;have hfro : W.frozen? ⟨g,j,none⟩ = false:=by simp [World.frozen?,b.bx]
 have hst : (store (⟨g,j,none⟩ : Addr) v).run P W = .ok () (W.setRow g cs'):=by
  rw [run_store P W _ v _ h1,hcell];simp [hfro,setCell_eq_setRow W g j cs t (0,0) v b.bx,hs]
 have hadd : (⟨g,j,none⟩ : Addr).add 0 = ⟨g,j,none⟩:=by unfold Addr.add;split <;> simp_all
 have hk:=hK _ _ (h _ (grown_setRow W g cs') ⟨b.hg,setRow_heap W g cs cs' t (0,0) b.bx⟩);have hput : a.put o.dst undef = a:=by rw [hd];rfl
 cases hq : P.info? ty with
|none=>simp [hq] at hi
|some i =>
  have hsz : i.size = 1:=by simpa [hq] using hi
  have hsv : (storeVar ty (⟨g,j,none⟩ : Addr) v).run P W = .ok () (W.setRow g cs'):=by
   simp [storeVar,sizeOf,typeInfo,hq,hsz,hc,storeCells,hadd,hst]
  unfold Oper.wp execOp;simp only [ho,hx,hy,Instr.storeAt,Instr.sureAddr,Sem.run_bind,Sem.run_pure,Result.andThen_ok,hsv];show K (a.put o.dst undef) _
  rw [hput];exact hk
theorem bx_store (b : Bx n t g W cs) (hgd : o.guard = none) (hd : o.dst = none) {ty : TypeId} {x y : Operand} (ho : o.op = .store ty x y) (hx : a.eval x = .pointer (some ⟨g,0,none⟩)) {cs' : Array Value} (hy : a.eval y = .agg cs')
 (hi : (P.info? ty).map (·.size) = some cs'.size) (hold : cs.size = cs'.size) (h1 : cs'.all (·.oneCell') = true)
 (h : ∀ w1,W.grownBy w1 (some g) → Bx n t g w1 cs' → wpList P ops Q rest a w1) : wpList P ops Q (o :: rest) a W:=by
 refine wpList_store_row hgd ty x y ho g cs' hx hy t cs b.bx hi hold h1 ?_;have hput : a.put o.dst undef = a:=by rw [hd];rfl
 rw [hput];exact h _ (grown_setRow W g cs') ⟨b.hg,setRow_heap W g cs cs' t (0,0) b.bx⟩
end
section
variable {P : Program} {o : Oper} {a : Act} {w' : World} {g : Nat} {cs : Array Value} {t : TypeId}
theorem bx_yields (b : w'.heap[g]? = some (.cells cs t (0,0))) {ty : TypeId} {x : Operand} (ho : o.op = .load ty x) {j : Nat} (hx : a.eval x = .pointer (some ⟨g,j,none⟩))
 {d : TypeDesc} (hu : P.underlying ty = some d) (hty : (match d with|.struct _|.array _ _=>true|_=>false) = false) {v : Value} (hv : cs[j]? = some v) : (execOp a.eval o).run P w' = .ok (.value v) w':=by
 have hc : w'.cell? ⟨g,j,none⟩ = some v:=(zB w' g j cs t (0,0) b).trans hv;have hagg : (isAgg ty).run P w' = .ok false w':=by
  unfold isAgg;rw [Sem.run_bind,run_underlying hu w'];cases d <;> simp_all
 unfold execOp;simp only [ho,hx,Instr.loadAt,Instr.sureAddr,loadVar,Sem.run_bind,Sem.run_pure,Result.andThen_ok,hagg,Bool.false_eq_true,if_false,run_load,hc]
theorem bx_yieldw (b : w'.heap[g]? = some (.cells cs t (0,0))) {ty : TypeId} {x : Operand} (ho : o.op = .load ty x) (hx : a.eval x = .pointer (some ⟨g,0,none⟩))
 {d : TypeDesc} (hu : P.underlying ty = some d) (hty : (match d with|.struct _|.array _ _=>true|_=>false) = true) (hi : (P.info? ty).map (·.size) = some cs.size) : (execOp a.eval o).run P w' = .ok (.value (.agg cs)) w':=by
 unfold execOp;simp only [ho,hx,Instr.loadAt,Instr.sureAddr,Sem.run_bind,Sem.run_pure,Result.andThen_ok,run_loadVar_row w' g t ty cs (0,0) d b hu hty hi]
end
section
variable {P : Program} {ops : Array Oper} {o : Oper} {a : Act} {W : World} {Q : Exit → Act → World → Prop} {K : Act → World → Prop} {n g : Nat} {cs : Array Value} {t : TypeId}
theorem bx_store_if (b : Bx n t g W cs) (hw : Region.wanted o (yielded ops a.tmps) = true) (hN : o.dst = none) {ty : TypeId} {x y : Operand} (ho : o.op = .store ty x y) (hx : a.eval x = .pointer (some ⟨g,0,none⟩)) {cs' : Array Value} (hy : a.eval y = .agg cs')
 (hi : (P.info? ty).map (·.size) = some cs'.size) (hold : cs.size = cs'.size) (h1 : cs'.all (·.oneCell') = true)
 (hK : ∀ w1,W.grownBy w1 (some g) → Bx n t g w1 cs' → K a w1) : if Region.wanted o (yielded ops a.tmps) = true then Oper.wp P o a W K Q else K (a.put none undef) W:=by
 refine skip_ (w1:=W.setRow g cs') hw hN ?_ (hK _ (grown_setRow W g cs') ⟨b.hg,setRow_heap W g cs cs' t (0,0) b.bx⟩);unfold execOp;simp only [ho,hx,hy,Instr.storeAt,Instr.sureAddr,Sem.run_bind,Sem.run_pure,Result.andThen_ok,run_storeVar_row W g t ty cs cs' b.bx hi hold h1]
theorem bx_put_if (b : Bx n t g W cs) (hw : Region.wanted o (yielded ops a.tmps) = true) (hN : o.dst = none) {ty : TypeId} {x y : Operand} (ho : o.op = .store ty x y) {j : Nat} (hx : a.eval x = .pointer (some ⟨g,j,none⟩))
 {u : Value} (hu : cs[j]? = some u) {v : Value} {cs' : Array Value} (hs : cs.setIfInBounds j v = cs') (hy : a.eval y = v) (h1 : v.oneCell' = true) (hc : v.cells = #[v]) (hi : (P.info? ty).map (·.size) = some 1)
 (hK : ∀ w1,W.grownBy w1 (some g) → Bx n t g w1 cs' → K a w1) : if Region.wanted o (yielded ops a.tmps) = true then Oper.wp P o a W K Q else K (a.put none undef) W:=by
 refine skip_ (w1:=W.setRow g cs') hw hN ?_ (hK _ (grown_setRow W g cs') ⟨b.hg,setRow_heap W g cs cs' t (0,0) b.bx⟩);have hcell : W.cell? ⟨g,j,none⟩ = some u:=(zB W g j cs t (0,0) b.bx).trans hu;have hfro : W.frozen? ⟨g,j,none⟩ = false:=by simp [World.frozen?,b.bx]
 have hst : (store (⟨g,j,none⟩ : Addr) v).run P W = .ok () (W.setRow g cs'):=by
  rw [run_store P W _ v _ h1,hcell];simp [hfro,setCell_eq_setRow W g j cs t (0,0) v b.bx,hs]
 have hadd : (⟨g,j,none⟩ : Addr).add 0 = ⟨g,j,none⟩:=by unfold Addr.add;split <;> simp_all
 cases hq : P.info? ty with
|none=>simp [hq] at hi
|some i =>
  have hsz : i.size = 1:=by simpa [hq] using hi
  have hsv : (storeVar ty (⟨g,j,none⟩ : Addr) v).run P W = .ok () (W.setRow g cs'):=by
   simp [storeVar,sizeOf,typeInfo,hq,hsz,hc,storeCells,hadd,hst]
  unfold execOp;simp only [ho,hx,hy,Instr.storeAt,Instr.sureAddr,Sem.run_bind,Sem.run_pure,Result.andThen_ok,hsv]
end
theorem one3 : (Try.prog.info? 3).map (·.size) = some 1:=by kernel_rfl
theorem one4 : (Try.prog.info? 4).map (·.size) = some 1:=by kernel_rfl
theorem one5 : (Try.prog.info? 5).map (·.size) = some 1:=by kernel_rfl
theorem one22 : (Try.prog.info? 22).map (·.size) = some 1:=by kernel_rfl
theorem one24 : (Try.prog.info? 24).map (·.size) = some 1:=by kernel_rfl
theorem one25 : (Try.prog.info? 25).map (·.size) = some 1:=by kernel_rfl
theorem one26 : (Try.prog.info? 26).map (·.size) = some 1:=by kernel_rfl
theorem one27 : (Try.prog.info? 27).map (·.size) = some 1:=by kernel_rfl
structure Sl where
 A : Option Addr
 n : Nat
 c : Nat
structure Scr where
 rows : Int
 cols : Int
 c : Sl
 y : Int
 x : Int
 wrap : Bool
 attr : Int
 top : Int
 bottom : Int
 t : Sl
 sy : Int
 sx : Int
 sattr : Int
 auto : Bool
 shown : Bool
 alt : Bool
 o : Sl
 oy : Int
 ox : Int
 mode : Int
 priv : Int
 p : Sl
 i : Sl
 u : Sl
def Scr.cs (s : Scr) : Array Value:=#[(.int .i64 s.rows),(.int .i64 s.cols),(.slice s.c.A s.c.n s.c.c),(.int .i64 s.y),(.int .i64 s.x),(.bool s.wrap),(.int .u16 s.attr),(.int .i64 s.top),(.int .i64 s.bottom),(.slice s.t.A s.t.n s.t.c),(.int .i64 s.sy),(.int .i64 s.sx),(.int .u16 s.sattr),(.bool s.auto),(.bool s.shown),(.bool s.alt),(.slice s.o.A s.o.n s.o.c),(.int .i64 s.oy),(.int .i64 s.ox),(.int .i64 s.mode),(.int .u8 s.priv),(.slice s.p.A s.p.n s.p.c),(.slice s.i.A s.i.n s.i.c),(.slice s.u.A s.u.n s.u.c)]
def Scr.zero : Scr:=⟨0,0,⟨none,0,0⟩,0,0,false,0,0,0,⟨none,0,0⟩,0,0,0,false,false,false,⟨none,0,0⟩,0,0,0,0,⟨none,0,0⟩,⟨none,0,0⟩,⟨none,0,0⟩⟩
theorem Scr.size (s : Scr) : s.cs.size = 24:=rfl
theorem Scr.all (s : Scr) : s.cs.all (·.oneCell') = true:=by unfold Scr.cs;simp [Value.oneCell']
theorem Scr.infoz : (Try.prog.info? 31).map (·.zero) = some (some (.agg #[(.int .i64 0),(.int .i64 0),(.slice none 0 0),(.int .i64 0),(.int .i64 0),(.bool false),(.int .u16 0),(.int .i64 0),(.int .i64 0),(.slice none 0 0),(.int .i64 0),(.int .i64 0),(.int .u16 0),(.bool false),(.bool false),(.bool false),(.slice none 0 0),(.int .i64 0),(.int .i64 0),(.int .i64 0),(.int .u8 0),(.slice none 0 0),(.slice none 0 0),(.slice none 0 0)])):=by kernel_rfl
theorem Scr.infos : (Try.prog.info? 31).map (·.size) = some 24:=by kernel_rfl
theorem Scr.sizes (s : Scr) : (Try.prog.info? 31).map (·.size) = some s.cs.size:=Scr.infos
theorem Scr.get_rows (s : Scr) : s.cs[0]? = some (.int .i64 s.rows):=rfl
theorem Scr.get_cols (s : Scr) : s.cs[1]? = some (.int .i64 s.cols):=rfl
def Scr.set_c (s : Scr) (a : Sl) : Scr:={ s with c:=a }
theorem Scr.get_c (s : Scr) : s.cs[2]? = some (.slice s.c.A s.c.n s.c.c):=rfl
theorem Scr.put_c (s : Scr) (a : Sl) : s.cs.setIfInBounds 2 (.slice a.A a.n a.c) = (s.set_c a).cs:=rfl
def Scr.set_y (s : Scr) (a : Int) : Scr:={ s with y:=a }
theorem Scr.get_y (s : Scr) : s.cs[3]? = some (.int .i64 s.y):=rfl
theorem Scr.put_y (s : Scr) (a : Int) : s.cs.setIfInBounds 3 (.int .i64 a) = (s.set_y a).cs:=rfl
def Scr.set_x (s : Scr) (a : Int) : Scr:={ s with x:=a }
theorem Scr.get_x (s : Scr) : s.cs[4]? = some (.int .i64 s.x):=rfl
theorem Scr.put_x (s : Scr) (a : Int) : s.cs.setIfInBounds 4 (.int .i64 a) = (s.set_x a).cs:=rfl
def Scr.set_wrap (s : Scr) (a : Bool) : Scr:={ s with wrap:=a }
theorem Scr.get_wrap (s : Scr) : s.cs[5]? = some (.bool s.wrap):=rfl
theorem Scr.put_wrap (s : Scr) (a : Bool) : s.cs.setIfInBounds 5 (.bool a) = (s.set_wrap a).cs:=rfl
def Scr.set_attr (s : Scr) (a : Int) : Scr:={ s with attr:=a }
theorem Scr.get_attr (s : Scr) : s.cs[6]? = some (.int .u16 s.attr):=rfl
theorem Scr.put_attr (s : Scr) (a : Int) : s.cs.setIfInBounds 6 (.int .u16 a) = (s.set_attr a).cs:=rfl
def Scr.set_top (s : Scr) (a : Int) : Scr:={ s with top:=a }
theorem Scr.get_top (s : Scr) : s.cs[7]? = some (.int .i64 s.top):=rfl
theorem Scr.put_top (s : Scr) (a : Int) : s.cs.setIfInBounds 7 (.int .i64 a) = (s.set_top a).cs:=rfl
def Scr.set_bottom (s : Scr) (a : Int) : Scr:={ s with bottom:=a }
theorem Scr.get_bottom (s : Scr) : s.cs[8]? = some (.int .i64 s.bottom):=rfl
theorem Scr.put_bottom (s : Scr) (a : Int) : s.cs.setIfInBounds 8 (.int .i64 a) = (s.set_bottom a).cs:=rfl
def Scr.set_t (s : Scr) (a : Sl) : Scr:={ s with t:=a }
theorem Scr.get_t (s : Scr) : s.cs[9]? = some (.slice s.t.A s.t.n s.t.c):=rfl
theorem Scr.put_t (s : Scr) (a : Sl) : s.cs.setIfInBounds 9 (.slice a.A a.n a.c) = (s.set_t a).cs:=rfl
def Scr.set_sy (s : Scr) (a : Int) : Scr:={ s with sy:=a }
theorem Scr.get_sy (s : Scr) : s.cs[10]? = some (.int .i64 s.sy):=rfl
theorem Scr.put_sy (s : Scr) (a : Int) : s.cs.setIfInBounds 10 (.int .i64 a) = (s.set_sy a).cs:=rfl
def Scr.set_sx (s : Scr) (a : Int) : Scr:={ s with sx:=a }
theorem Scr.get_sx (s : Scr) : s.cs[11]? = some (.int .i64 s.sx):=rfl
theorem Scr.put_sx (s : Scr) (a : Int) : s.cs.setIfInBounds 11 (.int .i64 a) = (s.set_sx a).cs:=rfl
def Scr.set_sattr (s : Scr) (a : Int) : Scr:={ s with sattr:=a }
theorem Scr.get_sattr (s : Scr) : s.cs[12]? = some (.int .u16 s.sattr):=rfl
theorem Scr.put_sattr (s : Scr) (a : Int) : s.cs.setIfInBounds 12 (.int .u16 a) = (s.set_sattr a).cs:=rfl
def Scr.set_auto (s : Scr) (a : Bool) : Scr:={ s with auto:=a }
theorem Scr.get_auto (s : Scr) : s.cs[13]? = some (.bool s.auto):=rfl
theorem Scr.put_auto (s : Scr) (a : Bool) : s.cs.setIfInBounds 13 (.bool a) = (s.set_auto a).cs:=rfl
def Scr.set_shown (s : Scr) (a : Bool) : Scr:={ s with shown:=a }
theorem Scr.get_shown (s : Scr) : s.cs[14]? = some (.bool s.shown):=rfl
theorem Scr.put_shown (s : Scr) (a : Bool) : s.cs.setIfInBounds 14 (.bool a) = (s.set_shown a).cs:=rfl
def Scr.set_alt (s : Scr) (a : Bool) : Scr:={ s with alt:=a }
theorem Scr.get_alt (s : Scr) : s.cs[15]? = some (.bool s.alt):=rfl
theorem Scr.put_alt (s : Scr) (a : Bool) : s.cs.setIfInBounds 15 (.bool a) = (s.set_alt a).cs:=rfl
def Scr.set_o (s : Scr) (a : Sl) : Scr:={ s with o:=a }
theorem Scr.get_o (s : Scr) : s.cs[16]? = some (.slice s.o.A s.o.n s.o.c):=rfl
theorem Scr.put_o (s : Scr) (a : Sl) : s.cs.setIfInBounds 16 (.slice a.A a.n a.c) = (s.set_o a).cs:=rfl
theorem Scr.putn_o (s : Scr) : s.cs.setIfInBounds 16 (.slice none 0 0) = (s.set_o ⟨none,0,0⟩).cs:=rfl
def Scr.set_oy (s : Scr) (a : Int) : Scr:={ s with oy:=a }
theorem Scr.get_oy (s : Scr) : s.cs[17]? = some (.int .i64 s.oy):=rfl
theorem Scr.put_oy (s : Scr) (a : Int) : s.cs.setIfInBounds 17 (.int .i64 a) = (s.set_oy a).cs:=rfl
def Scr.set_ox (s : Scr) (a : Int) : Scr:={ s with ox:=a }
theorem Scr.get_ox (s : Scr) : s.cs[18]? = some (.int .i64 s.ox):=rfl
theorem Scr.put_ox (s : Scr) (a : Int) : s.cs.setIfInBounds 18 (.int .i64 a) = (s.set_ox a).cs:=rfl
def Scr.set_mode (s : Scr) (a : Int) : Scr:={ s with mode:=a }
theorem Scr.get_mode (s : Scr) : s.cs[19]? = some (.int .i64 s.mode):=rfl
theorem Scr.put_mode (s : Scr) (a : Int) : s.cs.setIfInBounds 19 (.int .i64 a) = (s.set_mode a).cs:=rfl
def Scr.set_priv (s : Scr) (a : Int) : Scr:={ s with priv:=a }
theorem Scr.get_priv (s : Scr) : s.cs[20]? = some (.int .u8 s.priv):=rfl
theorem Scr.put_priv (s : Scr) (a : Int) : s.cs.setIfInBounds 20 (.int .u8 a) = (s.set_priv a).cs:=rfl
def Scr.set_p (s : Scr) (a : Sl) : Scr:={ s with p:=a }
theorem Scr.get_p (s : Scr) : s.cs[21]? = some (.slice s.p.A s.p.n s.p.c):=rfl
theorem Scr.put_p (s : Scr) (a : Sl) : s.cs.setIfInBounds 21 (.slice a.A a.n a.c) = (s.set_p a).cs:=rfl
def Scr.set_i (s : Scr) (a : Sl) : Scr:={ s with i:=a }
theorem Scr.get_i (s : Scr) : s.cs[22]? = some (.slice s.i.A s.i.n s.i.c):=rfl
theorem Scr.put_i (s : Scr) (a : Sl) : s.cs.setIfInBounds 22 (.slice a.A a.n a.c) = (s.set_i a).cs:=rfl
def Scr.set_u (s : Scr) (a : Sl) : Scr:={ s with u:=a }
theorem Scr.get_u (s : Scr) : s.cs[23]? = some (.slice s.u.A s.u.n s.u.c):=rfl
theorem Scr.putn_u (s : Scr) : s.cs.setIfInBounds 23 (.slice none 0 0) = (s.set_u ⟨none,0,0⟩).cs:=rfl
@[go_sem] theorem Scr.rows_c (s : Scr) (a : Sl) : (s.set_c a).rows = s.rows:=rfl
@[go_sem] theorem Scr.cols_c (s : Scr) (a : Sl) : (s.set_c a).cols = s.cols:=rfl
@[go_sem] theorem Scr.c_c (s : Scr) (a : Sl) : (s.set_c a).c = a:=rfl
@[go_sem] theorem Scr.y_c (s : Scr) (a : Sl) : (s.set_c a).y = s.y:=rfl
@[go_sem] theorem Scr.x_c (s : Scr) (a : Sl) : (s.set_c a).x = s.x:=rfl
@[go_sem] theorem Scr.wrap_c (s : Scr) (a : Sl) : (s.set_c a).wrap = s.wrap:=rfl
@[go_sem] theorem Scr.attr_c (s : Scr) (a : Sl) : (s.set_c a).attr = s.attr:=rfl
@[go_sem] theorem Scr.top_c (s : Scr) (a : Sl) : (s.set_c a).top = s.top:=rfl
@[go_sem] theorem Scr.bottom_c (s : Scr) (a : Sl) : (s.set_c a).bottom = s.bottom:=rfl
@[go_sem] theorem Scr.t_c (s : Scr) (a : Sl) : (s.set_c a).t = s.t:=rfl
@[go_sem] theorem Scr.sy_c (s : Scr) (a : Sl) : (s.set_c a).sy = s.sy:=rfl
@[go_sem] theorem Scr.sx_c (s : Scr) (a : Sl) : (s.set_c a).sx = s.sx:=rfl
@[go_sem] theorem Scr.sattr_c (s : Scr) (a : Sl) : (s.set_c a).sattr = s.sattr:=rfl
@[go_sem] theorem Scr.auto_c (s : Scr) (a : Sl) : (s.set_c a).auto = s.auto:=rfl
@[go_sem] theorem Scr.shown_c (s : Scr) (a : Sl) : (s.set_c a).shown = s.shown:=rfl
@[go_sem] theorem Scr.alt_c (s : Scr) (a : Sl) : (s.set_c a).alt = s.alt:=rfl
@[go_sem] theorem Scr.o_c (s : Scr) (a : Sl) : (s.set_c a).o = s.o:=rfl
@[go_sem] theorem Scr.oy_c (s : Scr) (a : Sl) : (s.set_c a).oy = s.oy:=rfl
@[go_sem] theorem Scr.ox_c (s : Scr) (a : Sl) : (s.set_c a).ox = s.ox:=rfl
@[go_sem] theorem Scr.mode_c (s : Scr) (a : Sl) : (s.set_c a).mode = s.mode:=rfl
@[go_sem] theorem Scr.priv_c (s : Scr) (a : Sl) : (s.set_c a).priv = s.priv:=rfl
@[go_sem] theorem Scr.p_c (s : Scr) (a : Sl) : (s.set_c a).p = s.p:=rfl
@[go_sem] theorem Scr.i_c (s : Scr) (a : Sl) : (s.set_c a).i = s.i:=rfl
@[go_sem] theorem Scr.u_c (s : Scr) (a : Sl) : (s.set_c a).u = s.u:=rfl
@[go_sem] theorem Scr.rows_y (s : Scr) (a : Int) : (s.set_y a).rows = s.rows:=rfl
@[go_sem] theorem Scr.cols_y (s : Scr) (a : Int) : (s.set_y a).cols = s.cols:=rfl
@[go_sem] theorem Scr.c_y (s : Scr) (a : Int) : (s.set_y a).c = s.c:=rfl
@[go_sem] theorem Scr.y_y (s : Scr) (a : Int) : (s.set_y a).y = a:=rfl
@[go_sem] theorem Scr.x_y (s : Scr) (a : Int) : (s.set_y a).x = s.x:=rfl
@[go_sem] theorem Scr.wrap_y (s : Scr) (a : Int) : (s.set_y a).wrap = s.wrap:=rfl
@[go_sem] theorem Scr.attr_y (s : Scr) (a : Int) : (s.set_y a).attr = s.attr:=rfl
@[go_sem] theorem Scr.top_y (s : Scr) (a : Int) : (s.set_y a).top = s.top:=rfl
@[go_sem] theorem Scr.bottom_y (s : Scr) (a : Int) : (s.set_y a).bottom = s.bottom:=rfl
@[go_sem] theorem Scr.t_y (s : Scr) (a : Int) : (s.set_y a).t = s.t:=rfl
@[go_sem] theorem Scr.sy_y (s : Scr) (a : Int) : (s.set_y a).sy = s.sy:=rfl
@[go_sem] theorem Scr.sx_y (s : Scr) (a : Int) : (s.set_y a).sx = s.sx:=rfl
@[go_sem] theorem Scr.sattr_y (s : Scr) (a : Int) : (s.set_y a).sattr = s.sattr:=rfl
@[go_sem] theorem Scr.auto_y (s : Scr) (a : Int) : (s.set_y a).auto = s.auto:=rfl
@[go_sem] theorem Scr.shown_y (s : Scr) (a : Int) : (s.set_y a).shown = s.shown:=rfl
@[go_sem] theorem Scr.alt_y (s : Scr) (a : Int) : (s.set_y a).alt = s.alt:=rfl
@[go_sem] theorem Scr.o_y (s : Scr) (a : Int) : (s.set_y a).o = s.o:=rfl
@[go_sem] theorem Scr.oy_y (s : Scr) (a : Int) : (s.set_y a).oy = s.oy:=rfl
@[go_sem] theorem Scr.ox_y (s : Scr) (a : Int) : (s.set_y a).ox = s.ox:=rfl
@[go_sem] theorem Scr.mode_y (s : Scr) (a : Int) : (s.set_y a).mode = s.mode:=rfl
@[go_sem] theorem Scr.priv_y (s : Scr) (a : Int) : (s.set_y a).priv = s.priv:=rfl
@[go_sem] theorem Scr.p_y (s : Scr) (a : Int) : (s.set_y a).p = s.p:=rfl
@[go_sem] theorem Scr.i_y (s : Scr) (a : Int) : (s.set_y a).i = s.i:=rfl
@[go_sem] theorem Scr.u_y (s : Scr) (a : Int) : (s.set_y a).u = s.u:=rfl
@[go_sem] theorem Scr.rows_x (s : Scr) (a : Int) : (s.set_x a).rows = s.rows:=rfl
@[go_sem] theorem Scr.cols_x (s : Scr) (a : Int) : (s.set_x a).cols = s.cols:=rfl
@[go_sem] theorem Scr.c_x (s : Scr) (a : Int) : (s.set_x a).c = s.c:=rfl
@[go_sem] theorem Scr.y_x (s : Scr) (a : Int) : (s.set_x a).y = s.y:=rfl
@[go_sem] theorem Scr.x_x (s : Scr) (a : Int) : (s.set_x a).x = a:=rfl
@[go_sem] theorem Scr.wrap_x (s : Scr) (a : Int) : (s.set_x a).wrap = s.wrap:=rfl
@[go_sem] theorem Scr.attr_x (s : Scr) (a : Int) : (s.set_x a).attr = s.attr:=rfl
@[go_sem] theorem Scr.top_x (s : Scr) (a : Int) : (s.set_x a).top = s.top:=rfl
@[go_sem] theorem Scr.bottom_x (s : Scr) (a : Int) : (s.set_x a).bottom = s.bottom:=rfl
@[go_sem] theorem Scr.t_x (s : Scr) (a : Int) : (s.set_x a).t = s.t:=rfl
@[go_sem] theorem Scr.sy_x (s : Scr) (a : Int) : (s.set_x a).sy = s.sy:=rfl
@[go_sem] theorem Scr.sx_x (s : Scr) (a : Int) : (s.set_x a).sx = s.sx:=rfl
@[go_sem] theorem Scr.sattr_x (s : Scr) (a : Int) : (s.set_x a).sattr = s.sattr:=rfl
@[go_sem] theorem Scr.auto_x (s : Scr) (a : Int) : (s.set_x a).auto = s.auto:=rfl
@[go_sem] theorem Scr.shown_x (s : Scr) (a : Int) : (s.set_x a).shown = s.shown:=rfl
@[go_sem] theorem Scr.alt_x (s : Scr) (a : Int) : (s.set_x a).alt = s.alt:=rfl
@[go_sem] theorem Scr.o_x (s : Scr) (a : Int) : (s.set_x a).o = s.o:=rfl
@[go_sem] theorem Scr.oy_x (s : Scr) (a : Int) : (s.set_x a).oy = s.oy:=rfl
@[go_sem] theorem Scr.ox_x (s : Scr) (a : Int) : (s.set_x a).ox = s.ox:=rfl
@[go_sem] theorem Scr.mode_x (s : Scr) (a : Int) : (s.set_x a).mode = s.mode:=rfl
@[go_sem] theorem Scr.priv_x (s : Scr) (a : Int) : (s.set_x a).priv = s.priv:=rfl
@[go_sem] theorem Scr.p_x (s : Scr) (a : Int) : (s.set_x a).p = s.p:=rfl
@[go_sem] theorem Scr.i_x (s : Scr) (a : Int) : (s.set_x a).i = s.i:=rfl
@[go_sem] theorem Scr.u_x (s : Scr) (a : Int) : (s.set_x a).u = s.u:=rfl
@[go_sem] theorem Scr.rows_wrap (s : Scr) (a : Bool) : (s.set_wrap a).rows = s.rows:=rfl
@[go_sem] theorem Scr.cols_wrap (s : Scr) (a : Bool) : (s.set_wrap a).cols = s.cols:=rfl
@[go_sem] theorem Scr.c_wrap (s : Scr) (a : Bool) : (s.set_wrap a).c = s.c:=rfl
@[go_sem] theorem Scr.y_wrap (s : Scr) (a : Bool) : (s.set_wrap a).y = s.y:=rfl
@[go_sem] theorem Scr.x_wrap (s : Scr) (a : Bool) : (s.set_wrap a).x = s.x:=rfl
@[go_sem] theorem Scr.wrap_wrap (s : Scr) (a : Bool) : (s.set_wrap a).wrap = a:=rfl
@[go_sem] theorem Scr.attr_wrap (s : Scr) (a : Bool) : (s.set_wrap a).attr = s.attr:=rfl
@[go_sem] theorem Scr.top_wrap (s : Scr) (a : Bool) : (s.set_wrap a).top = s.top:=rfl
@[go_sem] theorem Scr.bottom_wrap (s : Scr) (a : Bool) : (s.set_wrap a).bottom = s.bottom:=rfl
@[go_sem] theorem Scr.t_wrap (s : Scr) (a : Bool) : (s.set_wrap a).t = s.t:=rfl
@[go_sem] theorem Scr.sy_wrap (s : Scr) (a : Bool) : (s.set_wrap a).sy = s.sy:=rfl
@[go_sem] theorem Scr.sx_wrap (s : Scr) (a : Bool) : (s.set_wrap a).sx = s.sx:=rfl
@[go_sem] theorem Scr.sattr_wrap (s : Scr) (a : Bool) : (s.set_wrap a).sattr = s.sattr:=rfl
@[go_sem] theorem Scr.auto_wrap (s : Scr) (a : Bool) : (s.set_wrap a).auto = s.auto:=rfl
@[go_sem] theorem Scr.shown_wrap (s : Scr) (a : Bool) : (s.set_wrap a).shown = s.shown:=rfl
@[go_sem] theorem Scr.alt_wrap (s : Scr) (a : Bool) : (s.set_wrap a).alt = s.alt:=rfl
@[go_sem] theorem Scr.o_wrap (s : Scr) (a : Bool) : (s.set_wrap a).o = s.o:=rfl
@[go_sem] theorem Scr.oy_wrap (s : Scr) (a : Bool) : (s.set_wrap a).oy = s.oy:=rfl
@[go_sem] theorem Scr.ox_wrap (s : Scr) (a : Bool) : (s.set_wrap a).ox = s.ox:=rfl
@[go_sem] theorem Scr.mode_wrap (s : Scr) (a : Bool) : (s.set_wrap a).mode = s.mode:=rfl
@[go_sem] theorem Scr.priv_wrap (s : Scr) (a : Bool) : (s.set_wrap a).priv = s.priv:=rfl
@[go_sem] theorem Scr.p_wrap (s : Scr) (a : Bool) : (s.set_wrap a).p = s.p:=rfl
@[go_sem] theorem Scr.i_wrap (s : Scr) (a : Bool) : (s.set_wrap a).i = s.i:=rfl
@[go_sem] theorem Scr.u_wrap (s : Scr) (a : Bool) : (s.set_wrap a).u = s.u:=rfl
@[go_sem] theorem Scr.rows_attr (s : Scr) (a : Int) : (s.set_attr a).rows = s.rows:=rfl
@[go_sem] theorem Scr.cols_attr (s : Scr) (a : Int) : (s.set_attr a).cols = s.cols:=rfl
@[go_sem] theorem Scr.c_attr (s : Scr) (a : Int) : (s.set_attr a).c = s.c:=rfl
@[go_sem] theorem Scr.y_attr (s : Scr) (a : Int) : (s.set_attr a).y = s.y:=rfl
@[go_sem] theorem Scr.x_attr (s : Scr) (a : Int) : (s.set_attr a).x = s.x:=rfl
@[go_sem] theorem Scr.wrap_attr (s : Scr) (a : Int) : (s.set_attr a).wrap = s.wrap:=rfl
@[go_sem] theorem Scr.attr_attr (s : Scr) (a : Int) : (s.set_attr a).attr = a:=rfl
@[go_sem] theorem Scr.top_attr (s : Scr) (a : Int) : (s.set_attr a).top = s.top:=rfl
@[go_sem] theorem Scr.bottom_attr (s : Scr) (a : Int) : (s.set_attr a).bottom = s.bottom:=rfl
@[go_sem] theorem Scr.t_attr (s : Scr) (a : Int) : (s.set_attr a).t = s.t:=rfl
@[go_sem] theorem Scr.sy_attr (s : Scr) (a : Int) : (s.set_attr a).sy = s.sy:=rfl
@[go_sem] theorem Scr.sx_attr (s : Scr) (a : Int) : (s.set_attr a).sx = s.sx:=rfl
@[go_sem] theorem Scr.sattr_attr (s : Scr) (a : Int) : (s.set_attr a).sattr = s.sattr:=rfl
@[go_sem] theorem Scr.auto_attr (s : Scr) (a : Int) : (s.set_attr a).auto = s.auto:=rfl
@[go_sem] theorem Scr.shown_attr (s : Scr) (a : Int) : (s.set_attr a).shown = s.shown:=rfl
@[go_sem] theorem Scr.alt_attr (s : Scr) (a : Int) : (s.set_attr a).alt = s.alt:=rfl
@[go_sem] theorem Scr.o_attr (s : Scr) (a : Int) : (s.set_attr a).o = s.o:=rfl
@[go_sem] theorem Scr.oy_attr (s : Scr) (a : Int) : (s.set_attr a).oy = s.oy:=rfl
@[go_sem] theorem Scr.ox_attr (s : Scr) (a : Int) : (s.set_attr a).ox = s.ox:=rfl
@[go_sem] theorem Scr.mode_attr (s : Scr) (a : Int) : (s.set_attr a).mode = s.mode:=rfl
@[go_sem] theorem Scr.priv_attr (s : Scr) (a : Int) : (s.set_attr a).priv = s.priv:=rfl
@[go_sem] theorem Scr.p_attr (s : Scr) (a : Int) : (s.set_attr a).p = s.p:=rfl
@[go_sem] theorem Scr.i_attr (s : Scr) (a : Int) : (s.set_attr a).i = s.i:=rfl
@[go_sem] theorem Scr.u_attr (s : Scr) (a : Int) : (s.set_attr a).u = s.u:=rfl
@[go_sem] theorem Scr.rows_top (s : Scr) (a : Int) : (s.set_top a).rows = s.rows:=rfl
@[go_sem] theorem Scr.cols_top (s : Scr) (a : Int) : (s.set_top a).cols = s.cols:=rfl
@[go_sem] theorem Scr.c_top (s : Scr) (a : Int) : (s.set_top a).c = s.c:=rfl
@[go_sem] theorem Scr.y_top (s : Scr) (a : Int) : (s.set_top a).y = s.y:=rfl
@[go_sem] theorem Scr.x_top (s : Scr) (a : Int) : (s.set_top a).x = s.x:=rfl
@[go_sem] theorem Scr.wrap_top (s : Scr) (a : Int) : (s.set_top a).wrap = s.wrap:=rfl
@[go_sem] theorem Scr.attr_top (s : Scr) (a : Int) : (s.set_top a).attr = s.attr:=rfl
@[go_sem] theorem Scr.top_top (s : Scr) (a : Int) : (s.set_top a).top = a:=rfl
@[go_sem] theorem Scr.bottom_top (s : Scr) (a : Int) : (s.set_top a).bottom = s.bottom:=rfl
@[go_sem] theorem Scr.t_top (s : Scr) (a : Int) : (s.set_top a).t = s.t:=rfl
@[go_sem] theorem Scr.sy_top (s : Scr) (a : Int) : (s.set_top a).sy = s.sy:=rfl
@[go_sem] theorem Scr.sx_top (s : Scr) (a : Int) : (s.set_top a).sx = s.sx:=rfl
@[go_sem] theorem Scr.sattr_top (s : Scr) (a : Int) : (s.set_top a).sattr = s.sattr:=rfl
@[go_sem] theorem Scr.auto_top (s : Scr) (a : Int) : (s.set_top a).auto = s.auto:=rfl
@[go_sem] theorem Scr.shown_top (s : Scr) (a : Int) : (s.set_top a).shown = s.shown:=rfl
@[go_sem] theorem Scr.alt_top (s : Scr) (a : Int) : (s.set_top a).alt = s.alt:=rfl
@[go_sem] theorem Scr.o_top (s : Scr) (a : Int) : (s.set_top a).o = s.o:=rfl
@[go_sem] theorem Scr.oy_top (s : Scr) (a : Int) : (s.set_top a).oy = s.oy:=rfl
@[go_sem] theorem Scr.ox_top (s : Scr) (a : Int) : (s.set_top a).ox = s.ox:=rfl
@[go_sem] theorem Scr.mode_top (s : Scr) (a : Int) : (s.set_top a).mode = s.mode:=rfl
@[go_sem] theorem Scr.priv_top (s : Scr) (a : Int) : (s.set_top a).priv = s.priv:=rfl
@[go_sem] theorem Scr.p_top (s : Scr) (a : Int) : (s.set_top a).p = s.p:=rfl
@[go_sem] theorem Scr.i_top (s : Scr) (a : Int) : (s.set_top a).i = s.i:=rfl
@[go_sem] theorem Scr.u_top (s : Scr) (a : Int) : (s.set_top a).u = s.u:=rfl
@[go_sem] theorem Scr.rows_bottom (s : Scr) (a : Int) : (s.set_bottom a).rows = s.rows:=rfl
@[go_sem] theorem Scr.cols_bottom (s : Scr) (a : Int) : (s.set_bottom a).cols = s.cols:=rfl
@[go_sem] theorem Scr.c_bottom (s : Scr) (a : Int) : (s.set_bottom a).c = s.c:=rfl
@[go_sem] theorem Scr.y_bottom (s : Scr) (a : Int) : (s.set_bottom a).y = s.y:=rfl
@[go_sem] theorem Scr.x_bottom (s : Scr) (a : Int) : (s.set_bottom a).x = s.x:=rfl
@[go_sem] theorem Scr.wrap_bottom (s : Scr) (a : Int) : (s.set_bottom a).wrap = s.wrap:=rfl
@[go_sem] theorem Scr.attr_bottom (s : Scr) (a : Int) : (s.set_bottom a).attr = s.attr:=rfl
@[go_sem] theorem Scr.top_bottom (s : Scr) (a : Int) : (s.set_bottom a).top = s.top:=rfl
@[go_sem] theorem Scr.bottom_bottom (s : Scr) (a : Int) : (s.set_bottom a).bottom = a:=rfl
@[go_sem] theorem Scr.t_bottom (s : Scr) (a : Int) : (s.set_bottom a).t = s.t:=rfl
@[go_sem] theorem Scr.sy_bottom (s : Scr) (a : Int) : (s.set_bottom a).sy = s.sy:=rfl
@[go_sem] theorem Scr.sx_bottom (s : Scr) (a : Int) : (s.set_bottom a).sx = s.sx:=rfl
@[go_sem] theorem Scr.sattr_bottom (s : Scr) (a : Int) : (s.set_bottom a).sattr = s.sattr:=rfl
@[go_sem] theorem Scr.auto_bottom (s : Scr) (a : Int) : (s.set_bottom a).auto = s.auto:=rfl
@[go_sem] theorem Scr.shown_bottom (s : Scr) (a : Int) : (s.set_bottom a).shown = s.shown:=rfl
@[go_sem] theorem Scr.alt_bottom (s : Scr) (a : Int) : (s.set_bottom a).alt = s.alt:=rfl
@[go_sem] theorem Scr.o_bottom (s : Scr) (a : Int) : (s.set_bottom a).o = s.o:=rfl
@[go_sem] theorem Scr.oy_bottom (s : Scr) (a : Int) : (s.set_bottom a).oy = s.oy:=rfl
@[go_sem] theorem Scr.ox_bottom (s : Scr) (a : Int) : (s.set_bottom a).ox = s.ox:=rfl
@[go_sem] theorem Scr.mode_bottom (s : Scr) (a : Int) : (s.set_bottom a).mode = s.mode:=rfl
@[go_sem] theorem Scr.priv_bottom (s : Scr) (a : Int) : (s.set_bottom a).priv = s.priv:=rfl
@[go_sem] theorem Scr.p_bottom (s : Scr) (a : Int) : (s.set_bottom a).p = s.p:=rfl
@[go_sem] theorem Scr.i_bottom (s : Scr) (a : Int) : (s.set_bottom a).i = s.i:=rfl
@[go_sem] theorem Scr.u_bottom (s : Scr) (a : Int) : (s.set_bottom a).u = s.u:=rfl
@[go_sem] theorem Scr.rows_t (s : Scr) (a : Sl) : (s.set_t a).rows = s.rows:=rfl
@[go_sem] theorem Scr.cols_t (s : Scr) (a : Sl) : (s.set_t a).cols = s.cols:=rfl
@[go_sem] theorem Scr.c_t (s : Scr) (a : Sl) : (s.set_t a).c = s.c:=rfl
@[go_sem] theorem Scr.y_t (s : Scr) (a : Sl) : (s.set_t a).y = s.y:=rfl
@[go_sem] theorem Scr.x_t (s : Scr) (a : Sl) : (s.set_t a).x = s.x:=rfl
@[go_sem] theorem Scr.wrap_t (s : Scr) (a : Sl) : (s.set_t a).wrap = s.wrap:=rfl
@[go_sem] theorem Scr.attr_t (s : Scr) (a : Sl) : (s.set_t a).attr = s.attr:=rfl
@[go_sem] theorem Scr.top_t (s : Scr) (a : Sl) : (s.set_t a).top = s.top:=rfl
@[go_sem] theorem Scr.bottom_t (s : Scr) (a : Sl) : (s.set_t a).bottom = s.bottom:=rfl
@[go_sem] theorem Scr.t_t (s : Scr) (a : Sl) : (s.set_t a).t = a:=rfl
@[go_sem] theorem Scr.sy_t (s : Scr) (a : Sl) : (s.set_t a).sy = s.sy:=rfl
@[go_sem] theorem Scr.sx_t (s : Scr) (a : Sl) : (s.set_t a).sx = s.sx:=rfl
@[go_sem] theorem Scr.sattr_t (s : Scr) (a : Sl) : (s.set_t a).sattr = s.sattr:=rfl
@[go_sem] theorem Scr.auto_t (s : Scr) (a : Sl) : (s.set_t a).auto = s.auto:=rfl
@[go_sem] theorem Scr.shown_t (s : Scr) (a : Sl) : (s.set_t a).shown = s.shown:=rfl
@[go_sem] theorem Scr.alt_t (s : Scr) (a : Sl) : (s.set_t a).alt = s.alt:=rfl
@[go_sem] theorem Scr.o_t (s : Scr) (a : Sl) : (s.set_t a).o = s.o:=rfl
@[go_sem] theorem Scr.oy_t (s : Scr) (a : Sl) : (s.set_t a).oy = s.oy:=rfl
@[go_sem] theorem Scr.ox_t (s : Scr) (a : Sl) : (s.set_t a).ox = s.ox:=rfl
@[go_sem] theorem Scr.mode_t (s : Scr) (a : Sl) : (s.set_t a).mode = s.mode:=rfl
@[go_sem] theorem Scr.priv_t (s : Scr) (a : Sl) : (s.set_t a).priv = s.priv:=rfl
@[go_sem] theorem Scr.p_t (s : Scr) (a : Sl) : (s.set_t a).p = s.p:=rfl
@[go_sem] theorem Scr.i_t (s : Scr) (a : Sl) : (s.set_t a).i = s.i:=rfl
@[go_sem] theorem Scr.u_t (s : Scr) (a : Sl) : (s.set_t a).u = s.u:=rfl
@[go_sem] theorem Scr.rows_sy (s : Scr) (a : Int) : (s.set_sy a).rows = s.rows:=rfl
@[go_sem] theorem Scr.cols_sy (s : Scr) (a : Int) : (s.set_sy a).cols = s.cols:=rfl
@[go_sem] theorem Scr.c_sy (s : Scr) (a : Int) : (s.set_sy a).c = s.c:=rfl
@[go_sem] theorem Scr.y_sy (s : Scr) (a : Int) : (s.set_sy a).y = s.y:=rfl
@[go_sem] theorem Scr.x_sy (s : Scr) (a : Int) : (s.set_sy a).x = s.x:=rfl
@[go_sem] theorem Scr.wrap_sy (s : Scr) (a : Int) : (s.set_sy a).wrap = s.wrap:=rfl
@[go_sem] theorem Scr.attr_sy (s : Scr) (a : Int) : (s.set_sy a).attr = s.attr:=rfl
@[go_sem] theorem Scr.top_sy (s : Scr) (a : Int) : (s.set_sy a).top = s.top:=rfl
@[go_sem] theorem Scr.bottom_sy (s : Scr) (a : Int) : (s.set_sy a).bottom = s.bottom:=rfl
@[go_sem] theorem Scr.t_sy (s : Scr) (a : Int) : (s.set_sy a).t = s.t:=rfl
@[go_sem] theorem Scr.sy_sy (s : Scr) (a : Int) : (s.set_sy a).sy = a:=rfl
@[go_sem] theorem Scr.sx_sy (s : Scr) (a : Int) : (s.set_sy a).sx = s.sx:=rfl
@[go_sem] theorem Scr.sattr_sy (s : Scr) (a : Int) : (s.set_sy a).sattr = s.sattr:=rfl
@[go_sem] theorem Scr.auto_sy (s : Scr) (a : Int) : (s.set_sy a).auto = s.auto:=rfl
@[go_sem] theorem Scr.shown_sy (s : Scr) (a : Int) : (s.set_sy a).shown = s.shown:=rfl
@[go_sem] theorem Scr.alt_sy (s : Scr) (a : Int) : (s.set_sy a).alt = s.alt:=rfl
@[go_sem] theorem Scr.o_sy (s : Scr) (a : Int) : (s.set_sy a).o = s.o:=rfl
@[go_sem] theorem Scr.oy_sy (s : Scr) (a : Int) : (s.set_sy a).oy = s.oy:=rfl
@[go_sem] theorem Scr.ox_sy (s : Scr) (a : Int) : (s.set_sy a).ox = s.ox:=rfl
@[go_sem] theorem Scr.mode_sy (s : Scr) (a : Int) : (s.set_sy a).mode = s.mode:=rfl
@[go_sem] theorem Scr.priv_sy (s : Scr) (a : Int) : (s.set_sy a).priv = s.priv:=rfl
@[go_sem] theorem Scr.p_sy (s : Scr) (a : Int) : (s.set_sy a).p = s.p:=rfl
@[go_sem] theorem Scr.i_sy (s : Scr) (a : Int) : (s.set_sy a).i = s.i:=rfl
@[go_sem] theorem Scr.u_sy (s : Scr) (a : Int) : (s.set_sy a).u = s.u:=rfl
@[go_sem] theorem Scr.rows_sx (s : Scr) (a : Int) : (s.set_sx a).rows = s.rows:=rfl
@[go_sem] theorem Scr.cols_sx (s : Scr) (a : Int) : (s.set_sx a).cols = s.cols:=rfl
@[go_sem] theorem Scr.c_sx (s : Scr) (a : Int) : (s.set_sx a).c = s.c:=rfl
@[go_sem] theorem Scr.y_sx (s : Scr) (a : Int) : (s.set_sx a).y = s.y:=rfl
@[go_sem] theorem Scr.x_sx (s : Scr) (a : Int) : (s.set_sx a).x = s.x:=rfl
@[go_sem] theorem Scr.wrap_sx (s : Scr) (a : Int) : (s.set_sx a).wrap = s.wrap:=rfl
@[go_sem] theorem Scr.attr_sx (s : Scr) (a : Int) : (s.set_sx a).attr = s.attr:=rfl
@[go_sem] theorem Scr.top_sx (s : Scr) (a : Int) : (s.set_sx a).top = s.top:=rfl
@[go_sem] theorem Scr.bottom_sx (s : Scr) (a : Int) : (s.set_sx a).bottom = s.bottom:=rfl
@[go_sem] theorem Scr.t_sx (s : Scr) (a : Int) : (s.set_sx a).t = s.t:=rfl
@[go_sem] theorem Scr.sy_sx (s : Scr) (a : Int) : (s.set_sx a).sy = s.sy:=rfl
@[go_sem] theorem Scr.sx_sx (s : Scr) (a : Int) : (s.set_sx a).sx = a:=rfl
@[go_sem] theorem Scr.sattr_sx (s : Scr) (a : Int) : (s.set_sx a).sattr = s.sattr:=rfl
@[go_sem] theorem Scr.auto_sx (s : Scr) (a : Int) : (s.set_sx a).auto = s.auto:=rfl
@[go_sem] theorem Scr.shown_sx (s : Scr) (a : Int) : (s.set_sx a).shown = s.shown:=rfl
@[go_sem] theorem Scr.alt_sx (s : Scr) (a : Int) : (s.set_sx a).alt = s.alt:=rfl
@[go_sem] theorem Scr.o_sx (s : Scr) (a : Int) : (s.set_sx a).o = s.o:=rfl
@[go_sem] theorem Scr.oy_sx (s : Scr) (a : Int) : (s.set_sx a).oy = s.oy:=rfl
@[go_sem] theorem Scr.ox_sx (s : Scr) (a : Int) : (s.set_sx a).ox = s.ox:=rfl
@[go_sem] theorem Scr.mode_sx (s : Scr) (a : Int) : (s.set_sx a).mode = s.mode:=rfl
@[go_sem] theorem Scr.priv_sx (s : Scr) (a : Int) : (s.set_sx a).priv = s.priv:=rfl
@[go_sem] theorem Scr.p_sx (s : Scr) (a : Int) : (s.set_sx a).p = s.p:=rfl
@[go_sem] theorem Scr.i_sx (s : Scr) (a : Int) : (s.set_sx a).i = s.i:=rfl
@[go_sem] theorem Scr.u_sx (s : Scr) (a : Int) : (s.set_sx a).u = s.u:=rfl
@[go_sem] theorem Scr.rows_sattr (s : Scr) (a : Int) : (s.set_sattr a).rows = s.rows:=rfl
@[go_sem] theorem Scr.cols_sattr (s : Scr) (a : Int) : (s.set_sattr a).cols = s.cols:=rfl
@[go_sem] theorem Scr.c_sattr (s : Scr) (a : Int) : (s.set_sattr a).c = s.c:=rfl
@[go_sem] theorem Scr.y_sattr (s : Scr) (a : Int) : (s.set_sattr a).y = s.y:=rfl
@[go_sem] theorem Scr.x_sattr (s : Scr) (a : Int) : (s.set_sattr a).x = s.x:=rfl
@[go_sem] theorem Scr.wrap_sattr (s : Scr) (a : Int) : (s.set_sattr a).wrap = s.wrap:=rfl
@[go_sem] theorem Scr.attr_sattr (s : Scr) (a : Int) : (s.set_sattr a).attr = s.attr:=rfl
@[go_sem] theorem Scr.top_sattr (s : Scr) (a : Int) : (s.set_sattr a).top = s.top:=rfl
@[go_sem] theorem Scr.bottom_sattr (s : Scr) (a : Int) : (s.set_sattr a).bottom = s.bottom:=rfl
@[go_sem] theorem Scr.t_sattr (s : Scr) (a : Int) : (s.set_sattr a).t = s.t:=rfl
@[go_sem] theorem Scr.sy_sattr (s : Scr) (a : Int) : (s.set_sattr a).sy = s.sy:=rfl
@[go_sem] theorem Scr.sx_sattr (s : Scr) (a : Int) : (s.set_sattr a).sx = s.sx:=rfl
@[go_sem] theorem Scr.sattr_sattr (s : Scr) (a : Int) : (s.set_sattr a).sattr = a:=rfl
@[go_sem] theorem Scr.auto_sattr (s : Scr) (a : Int) : (s.set_sattr a).auto = s.auto:=rfl
@[go_sem] theorem Scr.shown_sattr (s : Scr) (a : Int) : (s.set_sattr a).shown = s.shown:=rfl
@[go_sem] theorem Scr.alt_sattr (s : Scr) (a : Int) : (s.set_sattr a).alt = s.alt:=rfl
@[go_sem] theorem Scr.o_sattr (s : Scr) (a : Int) : (s.set_sattr a).o = s.o:=rfl
@[go_sem] theorem Scr.oy_sattr (s : Scr) (a : Int) : (s.set_sattr a).oy = s.oy:=rfl
@[go_sem] theorem Scr.ox_sattr (s : Scr) (a : Int) : (s.set_sattr a).ox = s.ox:=rfl
@[go_sem] theorem Scr.mode_sattr (s : Scr) (a : Int) : (s.set_sattr a).mode = s.mode:=rfl
@[go_sem] theorem Scr.priv_sattr (s : Scr) (a : Int) : (s.set_sattr a).priv = s.priv:=rfl
@[go_sem] theorem Scr.p_sattr (s : Scr) (a : Int) : (s.set_sattr a).p = s.p:=rfl
@[go_sem] theorem Scr.i_sattr (s : Scr) (a : Int) : (s.set_sattr a).i = s.i:=rfl
@[go_sem] theorem Scr.u_sattr (s : Scr) (a : Int) : (s.set_sattr a).u = s.u:=rfl
@[go_sem] theorem Scr.rows_auto (s : Scr) (a : Bool) : (s.set_auto a).rows = s.rows:=rfl
@[go_sem] theorem Scr.cols_auto (s : Scr) (a : Bool) : (s.set_auto a).cols = s.cols:=rfl
@[go_sem] theorem Scr.c_auto (s : Scr) (a : Bool) : (s.set_auto a).c = s.c:=rfl
@[go_sem] theorem Scr.y_auto (s : Scr) (a : Bool) : (s.set_auto a).y = s.y:=rfl
@[go_sem] theorem Scr.x_auto (s : Scr) (a : Bool) : (s.set_auto a).x = s.x:=rfl
@[go_sem] theorem Scr.wrap_auto (s : Scr) (a : Bool) : (s.set_auto a).wrap = s.wrap:=rfl
@[go_sem] theorem Scr.attr_auto (s : Scr) (a : Bool) : (s.set_auto a).attr = s.attr:=rfl
@[go_sem] theorem Scr.top_auto (s : Scr) (a : Bool) : (s.set_auto a).top = s.top:=rfl
@[go_sem] theorem Scr.bottom_auto (s : Scr) (a : Bool) : (s.set_auto a).bottom = s.bottom:=rfl
@[go_sem] theorem Scr.t_auto (s : Scr) (a : Bool) : (s.set_auto a).t = s.t:=rfl
@[go_sem] theorem Scr.sy_auto (s : Scr) (a : Bool) : (s.set_auto a).sy = s.sy:=rfl
@[go_sem] theorem Scr.sx_auto (s : Scr) (a : Bool) : (s.set_auto a).sx = s.sx:=rfl
@[go_sem] theorem Scr.sattr_auto (s : Scr) (a : Bool) : (s.set_auto a).sattr = s.sattr:=rfl
@[go_sem] theorem Scr.auto_auto (s : Scr) (a : Bool) : (s.set_auto a).auto = a:=rfl
@[go_sem] theorem Scr.shown_auto (s : Scr) (a : Bool) : (s.set_auto a).shown = s.shown:=rfl
@[go_sem] theorem Scr.alt_auto (s : Scr) (a : Bool) : (s.set_auto a).alt = s.alt:=rfl
@[go_sem] theorem Scr.o_auto (s : Scr) (a : Bool) : (s.set_auto a).o = s.o:=rfl
@[go_sem] theorem Scr.oy_auto (s : Scr) (a : Bool) : (s.set_auto a).oy = s.oy:=rfl
@[go_sem] theorem Scr.ox_auto (s : Scr) (a : Bool) : (s.set_auto a).ox = s.ox:=rfl
@[go_sem] theorem Scr.mode_auto (s : Scr) (a : Bool) : (s.set_auto a).mode = s.mode:=rfl
@[go_sem] theorem Scr.priv_auto (s : Scr) (a : Bool) : (s.set_auto a).priv = s.priv:=rfl
@[go_sem] theorem Scr.p_auto (s : Scr) (a : Bool) : (s.set_auto a).p = s.p:=rfl
@[go_sem] theorem Scr.i_auto (s : Scr) (a : Bool) : (s.set_auto a).i = s.i:=rfl
@[go_sem] theorem Scr.u_auto (s : Scr) (a : Bool) : (s.set_auto a).u = s.u:=rfl
@[go_sem] theorem Scr.rows_shown (s : Scr) (a : Bool) : (s.set_shown a).rows = s.rows:=rfl
@[go_sem] theorem Scr.cols_shown (s : Scr) (a : Bool) : (s.set_shown a).cols = s.cols:=rfl
@[go_sem] theorem Scr.c_shown (s : Scr) (a : Bool) : (s.set_shown a).c = s.c:=rfl
@[go_sem] theorem Scr.y_shown (s : Scr) (a : Bool) : (s.set_shown a).y = s.y:=rfl
@[go_sem] theorem Scr.x_shown (s : Scr) (a : Bool) : (s.set_shown a).x = s.x:=rfl
@[go_sem] theorem Scr.wrap_shown (s : Scr) (a : Bool) : (s.set_shown a).wrap = s.wrap:=rfl
@[go_sem] theorem Scr.attr_shown (s : Scr) (a : Bool) : (s.set_shown a).attr = s.attr:=rfl
@[go_sem] theorem Scr.top_shown (s : Scr) (a : Bool) : (s.set_shown a).top = s.top:=rfl
@[go_sem] theorem Scr.bottom_shown (s : Scr) (a : Bool) : (s.set_shown a).bottom = s.bottom:=rfl
@[go_sem] theorem Scr.t_shown (s : Scr) (a : Bool) : (s.set_shown a).t = s.t:=rfl
@[go_sem] theorem Scr.sy_shown (s : Scr) (a : Bool) : (s.set_shown a).sy = s.sy:=rfl
@[go_sem] theorem Scr.sx_shown (s : Scr) (a : Bool) : (s.set_shown a).sx = s.sx:=rfl
@[go_sem] theorem Scr.sattr_shown (s : Scr) (a : Bool) : (s.set_shown a).sattr = s.sattr:=rfl
@[go_sem] theorem Scr.auto_shown (s : Scr) (a : Bool) : (s.set_shown a).auto = s.auto:=rfl
@[go_sem] theorem Scr.shown_shown (s : Scr) (a : Bool) : (s.set_shown a).shown = a:=rfl
@[go_sem] theorem Scr.alt_shown (s : Scr) (a : Bool) : (s.set_shown a).alt = s.alt:=rfl
@[go_sem] theorem Scr.o_shown (s : Scr) (a : Bool) : (s.set_shown a).o = s.o:=rfl
@[go_sem] theorem Scr.oy_shown (s : Scr) (a : Bool) : (s.set_shown a).oy = s.oy:=rfl
@[go_sem] theorem Scr.ox_shown (s : Scr) (a : Bool) : (s.set_shown a).ox = s.ox:=rfl
@[go_sem] theorem Scr.mode_shown (s : Scr) (a : Bool) : (s.set_shown a).mode = s.mode:=rfl
@[go_sem] theorem Scr.priv_shown (s : Scr) (a : Bool) : (s.set_shown a).priv = s.priv:=rfl
@[go_sem] theorem Scr.p_shown (s : Scr) (a : Bool) : (s.set_shown a).p = s.p:=rfl
@[go_sem] theorem Scr.i_shown (s : Scr) (a : Bool) : (s.set_shown a).i = s.i:=rfl
@[go_sem] theorem Scr.u_shown (s : Scr) (a : Bool) : (s.set_shown a).u = s.u:=rfl
@[go_sem] theorem Scr.rows_alt (s : Scr) (a : Bool) : (s.set_alt a).rows = s.rows:=rfl
@[go_sem] theorem Scr.cols_alt (s : Scr) (a : Bool) : (s.set_alt a).cols = s.cols:=rfl
@[go_sem] theorem Scr.c_alt (s : Scr) (a : Bool) : (s.set_alt a).c = s.c:=rfl
@[go_sem] theorem Scr.y_alt (s : Scr) (a : Bool) : (s.set_alt a).y = s.y:=rfl
@[go_sem] theorem Scr.x_alt (s : Scr) (a : Bool) : (s.set_alt a).x = s.x:=rfl
@[go_sem] theorem Scr.wrap_alt (s : Scr) (a : Bool) : (s.set_alt a).wrap = s.wrap:=rfl
@[go_sem] theorem Scr.attr_alt (s : Scr) (a : Bool) : (s.set_alt a).attr = s.attr:=rfl
@[go_sem] theorem Scr.top_alt (s : Scr) (a : Bool) : (s.set_alt a).top = s.top:=rfl
@[go_sem] theorem Scr.bottom_alt (s : Scr) (a : Bool) : (s.set_alt a).bottom = s.bottom:=rfl
@[go_sem] theorem Scr.t_alt (s : Scr) (a : Bool) : (s.set_alt a).t = s.t:=rfl
@[go_sem] theorem Scr.sy_alt (s : Scr) (a : Bool) : (s.set_alt a).sy = s.sy:=rfl
@[go_sem] theorem Scr.sx_alt (s : Scr) (a : Bool) : (s.set_alt a).sx = s.sx:=rfl
@[go_sem] theorem Scr.sattr_alt (s : Scr) (a : Bool) : (s.set_alt a).sattr = s.sattr:=rfl
@[go_sem] theorem Scr.auto_alt (s : Scr) (a : Bool) : (s.set_alt a).auto = s.auto:=rfl
@[go_sem] theorem Scr.shown_alt (s : Scr) (a : Bool) : (s.set_alt a).shown = s.shown:=rfl
@[go_sem] theorem Scr.alt_alt (s : Scr) (a : Bool) : (s.set_alt a).alt = a:=rfl
@[go_sem] theorem Scr.o_alt (s : Scr) (a : Bool) : (s.set_alt a).o = s.o:=rfl
@[go_sem] theorem Scr.oy_alt (s : Scr) (a : Bool) : (s.set_alt a).oy = s.oy:=rfl
@[go_sem] theorem Scr.ox_alt (s : Scr) (a : Bool) : (s.set_alt a).ox = s.ox:=rfl
@[go_sem] theorem Scr.mode_alt (s : Scr) (a : Bool) : (s.set_alt a).mode = s.mode:=rfl
@[go_sem] theorem Scr.priv_alt (s : Scr) (a : Bool) : (s.set_alt a).priv = s.priv:=rfl
@[go_sem] theorem Scr.p_alt (s : Scr) (a : Bool) : (s.set_alt a).p = s.p:=rfl
@[go_sem] theorem Scr.i_alt (s : Scr) (a : Bool) : (s.set_alt a).i = s.i:=rfl
@[go_sem] theorem Scr.u_alt (s : Scr) (a : Bool) : (s.set_alt a).u = s.u:=rfl
@[go_sem] theorem Scr.rows_o (s : Scr) (a : Sl) : (s.set_o a).rows = s.rows:=rfl
@[go_sem] theorem Scr.cols_o (s : Scr) (a : Sl) : (s.set_o a).cols = s.cols:=rfl
@[go_sem] theorem Scr.c_o (s : Scr) (a : Sl) : (s.set_o a).c = s.c:=rfl
@[go_sem] theorem Scr.y_o (s : Scr) (a : Sl) : (s.set_o a).y = s.y:=rfl
@[go_sem] theorem Scr.x_o (s : Scr) (a : Sl) : (s.set_o a).x = s.x:=rfl
@[go_sem] theorem Scr.wrap_o (s : Scr) (a : Sl) : (s.set_o a).wrap = s.wrap:=rfl
@[go_sem] theorem Scr.attr_o (s : Scr) (a : Sl) : (s.set_o a).attr = s.attr:=rfl
@[go_sem] theorem Scr.top_o (s : Scr) (a : Sl) : (s.set_o a).top = s.top:=rfl
@[go_sem] theorem Scr.bottom_o (s : Scr) (a : Sl) : (s.set_o a).bottom = s.bottom:=rfl
@[go_sem] theorem Scr.t_o (s : Scr) (a : Sl) : (s.set_o a).t = s.t:=rfl
@[go_sem] theorem Scr.sy_o (s : Scr) (a : Sl) : (s.set_o a).sy = s.sy:=rfl
@[go_sem] theorem Scr.sx_o (s : Scr) (a : Sl) : (s.set_o a).sx = s.sx:=rfl
@[go_sem] theorem Scr.sattr_o (s : Scr) (a : Sl) : (s.set_o a).sattr = s.sattr:=rfl
@[go_sem] theorem Scr.auto_o (s : Scr) (a : Sl) : (s.set_o a).auto = s.auto:=rfl
@[go_sem] theorem Scr.shown_o (s : Scr) (a : Sl) : (s.set_o a).shown = s.shown:=rfl
@[go_sem] theorem Scr.alt_o (s : Scr) (a : Sl) : (s.set_o a).alt = s.alt:=rfl
@[go_sem] theorem Scr.o_o (s : Scr) (a : Sl) : (s.set_o a).o = a:=rfl
@[go_sem] theorem Scr.oy_o (s : Scr) (a : Sl) : (s.set_o a).oy = s.oy:=rfl
@[go_sem] theorem Scr.ox_o (s : Scr) (a : Sl) : (s.set_o a).ox = s.ox:=rfl
@[go_sem] theorem Scr.mode_o (s : Scr) (a : Sl) : (s.set_o a).mode = s.mode:=rfl
@[go_sem] theorem Scr.priv_o (s : Scr) (a : Sl) : (s.set_o a).priv = s.priv:=rfl
@[go_sem] theorem Scr.p_o (s : Scr) (a : Sl) : (s.set_o a).p = s.p:=rfl
@[go_sem] theorem Scr.i_o (s : Scr) (a : Sl) : (s.set_o a).i = s.i:=rfl
@[go_sem] theorem Scr.u_o (s : Scr) (a : Sl) : (s.set_o a).u = s.u:=rfl
@[go_sem] theorem Scr.rows_oy (s : Scr) (a : Int) : (s.set_oy a).rows = s.rows:=rfl
@[go_sem] theorem Scr.cols_oy (s : Scr) (a : Int) : (s.set_oy a).cols = s.cols:=rfl
@[go_sem] theorem Scr.c_oy (s : Scr) (a : Int) : (s.set_oy a).c = s.c:=rfl
@[go_sem] theorem Scr.y_oy (s : Scr) (a : Int) : (s.set_oy a).y = s.y:=rfl
@[go_sem] theorem Scr.x_oy (s : Scr) (a : Int) : (s.set_oy a).x = s.x:=rfl
@[go_sem] theorem Scr.wrap_oy (s : Scr) (a : Int) : (s.set_oy a).wrap = s.wrap:=rfl
@[go_sem] theorem Scr.attr_oy (s : Scr) (a : Int) : (s.set_oy a).attr = s.attr:=rfl
@[go_sem] theorem Scr.top_oy (s : Scr) (a : Int) : (s.set_oy a).top = s.top:=rfl
@[go_sem] theorem Scr.bottom_oy (s : Scr) (a : Int) : (s.set_oy a).bottom = s.bottom:=rfl
@[go_sem] theorem Scr.t_oy (s : Scr) (a : Int) : (s.set_oy a).t = s.t:=rfl
@[go_sem] theorem Scr.sy_oy (s : Scr) (a : Int) : (s.set_oy a).sy = s.sy:=rfl
@[go_sem] theorem Scr.sx_oy (s : Scr) (a : Int) : (s.set_oy a).sx = s.sx:=rfl
@[go_sem] theorem Scr.sattr_oy (s : Scr) (a : Int) : (s.set_oy a).sattr = s.sattr:=rfl
@[go_sem] theorem Scr.auto_oy (s : Scr) (a : Int) : (s.set_oy a).auto = s.auto:=rfl
@[go_sem] theorem Scr.shown_oy (s : Scr) (a : Int) : (s.set_oy a).shown = s.shown:=rfl
@[go_sem] theorem Scr.alt_oy (s : Scr) (a : Int) : (s.set_oy a).alt = s.alt:=rfl
@[go_sem] theorem Scr.o_oy (s : Scr) (a : Int) : (s.set_oy a).o = s.o:=rfl
@[go_sem] theorem Scr.oy_oy (s : Scr) (a : Int) : (s.set_oy a).oy = a:=rfl
@[go_sem] theorem Scr.ox_oy (s : Scr) (a : Int) : (s.set_oy a).ox = s.ox:=rfl
@[go_sem] theorem Scr.mode_oy (s : Scr) (a : Int) : (s.set_oy a).mode = s.mode:=rfl
@[go_sem] theorem Scr.priv_oy (s : Scr) (a : Int) : (s.set_oy a).priv = s.priv:=rfl
@[go_sem] theorem Scr.p_oy (s : Scr) (a : Int) : (s.set_oy a).p = s.p:=rfl
@[go_sem] theorem Scr.i_oy (s : Scr) (a : Int) : (s.set_oy a).i = s.i:=rfl
@[go_sem] theorem Scr.u_oy (s : Scr) (a : Int) : (s.set_oy a).u = s.u:=rfl
@[go_sem] theorem Scr.rows_ox (s : Scr) (a : Int) : (s.set_ox a).rows = s.rows:=rfl
@[go_sem] theorem Scr.cols_ox (s : Scr) (a : Int) : (s.set_ox a).cols = s.cols:=rfl
@[go_sem] theorem Scr.c_ox (s : Scr) (a : Int) : (s.set_ox a).c = s.c:=rfl
@[go_sem] theorem Scr.y_ox (s : Scr) (a : Int) : (s.set_ox a).y = s.y:=rfl
@[go_sem] theorem Scr.x_ox (s : Scr) (a : Int) : (s.set_ox a).x = s.x:=rfl
@[go_sem] theorem Scr.wrap_ox (s : Scr) (a : Int) : (s.set_ox a).wrap = s.wrap:=rfl
@[go_sem] theorem Scr.attr_ox (s : Scr) (a : Int) : (s.set_ox a).attr = s.attr:=rfl
@[go_sem] theorem Scr.top_ox (s : Scr) (a : Int) : (s.set_ox a).top = s.top:=rfl
@[go_sem] theorem Scr.bottom_ox (s : Scr) (a : Int) : (s.set_ox a).bottom = s.bottom:=rfl
@[go_sem] theorem Scr.t_ox (s : Scr) (a : Int) : (s.set_ox a).t = s.t:=rfl
@[go_sem] theorem Scr.sy_ox (s : Scr) (a : Int) : (s.set_ox a).sy = s.sy:=rfl
@[go_sem] theorem Scr.sx_ox (s : Scr) (a : Int) : (s.set_ox a).sx = s.sx:=rfl
@[go_sem] theorem Scr.sattr_ox (s : Scr) (a : Int) : (s.set_ox a).sattr = s.sattr:=rfl
@[go_sem] theorem Scr.auto_ox (s : Scr) (a : Int) : (s.set_ox a).auto = s.auto:=rfl
@[go_sem] theorem Scr.shown_ox (s : Scr) (a : Int) : (s.set_ox a).shown = s.shown:=rfl
@[go_sem] theorem Scr.alt_ox (s : Scr) (a : Int) : (s.set_ox a).alt = s.alt:=rfl
@[go_sem] theorem Scr.o_ox (s : Scr) (a : Int) : (s.set_ox a).o = s.o:=rfl
@[go_sem] theorem Scr.oy_ox (s : Scr) (a : Int) : (s.set_ox a).oy = s.oy:=rfl
@[go_sem] theorem Scr.ox_ox (s : Scr) (a : Int) : (s.set_ox a).ox = a:=rfl
@[go_sem] theorem Scr.mode_ox (s : Scr) (a : Int) : (s.set_ox a).mode = s.mode:=rfl
@[go_sem] theorem Scr.priv_ox (s : Scr) (a : Int) : (s.set_ox a).priv = s.priv:=rfl
@[go_sem] theorem Scr.p_ox (s : Scr) (a : Int) : (s.set_ox a).p = s.p:=rfl
@[go_sem] theorem Scr.i_ox (s : Scr) (a : Int) : (s.set_ox a).i = s.i:=rfl
@[go_sem] theorem Scr.u_ox (s : Scr) (a : Int) : (s.set_ox a).u = s.u:=rfl
@[go_sem] theorem Scr.rows_mode (s : Scr) (a : Int) : (s.set_mode a).rows = s.rows:=rfl
@[go_sem] theorem Scr.cols_mode (s : Scr) (a : Int) : (s.set_mode a).cols = s.cols:=rfl
@[go_sem] theorem Scr.c_mode (s : Scr) (a : Int) : (s.set_mode a).c = s.c:=rfl
@[go_sem] theorem Scr.y_mode (s : Scr) (a : Int) : (s.set_mode a).y = s.y:=rfl
@[go_sem] theorem Scr.x_mode (s : Scr) (a : Int) : (s.set_mode a).x = s.x:=rfl
@[go_sem] theorem Scr.wrap_mode (s : Scr) (a : Int) : (s.set_mode a).wrap = s.wrap:=rfl
@[go_sem] theorem Scr.attr_mode (s : Scr) (a : Int) : (s.set_mode a).attr = s.attr:=rfl
@[go_sem] theorem Scr.top_mode (s : Scr) (a : Int) : (s.set_mode a).top = s.top:=rfl
@[go_sem] theorem Scr.bottom_mode (s : Scr) (a : Int) : (s.set_mode a).bottom = s.bottom:=rfl
@[go_sem] theorem Scr.t_mode (s : Scr) (a : Int) : (s.set_mode a).t = s.t:=rfl
@[go_sem] theorem Scr.sy_mode (s : Scr) (a : Int) : (s.set_mode a).sy = s.sy:=rfl
@[go_sem] theorem Scr.sx_mode (s : Scr) (a : Int) : (s.set_mode a).sx = s.sx:=rfl
@[go_sem] theorem Scr.sattr_mode (s : Scr) (a : Int) : (s.set_mode a).sattr = s.sattr:=rfl
@[go_sem] theorem Scr.auto_mode (s : Scr) (a : Int) : (s.set_mode a).auto = s.auto:=rfl
@[go_sem] theorem Scr.shown_mode (s : Scr) (a : Int) : (s.set_mode a).shown = s.shown:=rfl
@[go_sem] theorem Scr.alt_mode (s : Scr) (a : Int) : (s.set_mode a).alt = s.alt:=rfl
@[go_sem] theorem Scr.o_mode (s : Scr) (a : Int) : (s.set_mode a).o = s.o:=rfl
@[go_sem] theorem Scr.oy_mode (s : Scr) (a : Int) : (s.set_mode a).oy = s.oy:=rfl
@[go_sem] theorem Scr.ox_mode (s : Scr) (a : Int) : (s.set_mode a).ox = s.ox:=rfl
@[go_sem] theorem Scr.mode_mode (s : Scr) (a : Int) : (s.set_mode a).mode = a:=rfl
@[go_sem] theorem Scr.priv_mode (s : Scr) (a : Int) : (s.set_mode a).priv = s.priv:=rfl
@[go_sem] theorem Scr.p_mode (s : Scr) (a : Int) : (s.set_mode a).p = s.p:=rfl
@[go_sem] theorem Scr.i_mode (s : Scr) (a : Int) : (s.set_mode a).i = s.i:=rfl
@[go_sem] theorem Scr.u_mode (s : Scr) (a : Int) : (s.set_mode a).u = s.u:=rfl
@[go_sem] theorem Scr.rows_priv (s : Scr) (a : Int) : (s.set_priv a).rows = s.rows:=rfl
@[go_sem] theorem Scr.cols_priv (s : Scr) (a : Int) : (s.set_priv a).cols = s.cols:=rfl
@[go_sem] theorem Scr.c_priv (s : Scr) (a : Int) : (s.set_priv a).c = s.c:=rfl
@[go_sem] theorem Scr.y_priv (s : Scr) (a : Int) : (s.set_priv a).y = s.y:=rfl
@[go_sem] theorem Scr.x_priv (s : Scr) (a : Int) : (s.set_priv a).x = s.x:=rfl
@[go_sem] theorem Scr.wrap_priv (s : Scr) (a : Int) : (s.set_priv a).wrap = s.wrap:=rfl
@[go_sem] theorem Scr.attr_priv (s : Scr) (a : Int) : (s.set_priv a).attr = s.attr:=rfl
@[go_sem] theorem Scr.top_priv (s : Scr) (a : Int) : (s.set_priv a).top = s.top:=rfl
@[go_sem] theorem Scr.bottom_priv (s : Scr) (a : Int) : (s.set_priv a).bottom = s.bottom:=rfl
@[go_sem] theorem Scr.t_priv (s : Scr) (a : Int) : (s.set_priv a).t = s.t:=rfl
@[go_sem] theorem Scr.sy_priv (s : Scr) (a : Int) : (s.set_priv a).sy = s.sy:=rfl
@[go_sem] theorem Scr.sx_priv (s : Scr) (a : Int) : (s.set_priv a).sx = s.sx:=rfl
@[go_sem] theorem Scr.sattr_priv (s : Scr) (a : Int) : (s.set_priv a).sattr = s.sattr:=rfl
@[go_sem] theorem Scr.auto_priv (s : Scr) (a : Int) : (s.set_priv a).auto = s.auto:=rfl
@[go_sem] theorem Scr.shown_priv (s : Scr) (a : Int) : (s.set_priv a).shown = s.shown:=rfl
@[go_sem] theorem Scr.alt_priv (s : Scr) (a : Int) : (s.set_priv a).alt = s.alt:=rfl
@[go_sem] theorem Scr.o_priv (s : Scr) (a : Int) : (s.set_priv a).o = s.o:=rfl
@[go_sem] theorem Scr.oy_priv (s : Scr) (a : Int) : (s.set_priv a).oy = s.oy:=rfl
@[go_sem] theorem Scr.ox_priv (s : Scr) (a : Int) : (s.set_priv a).ox = s.ox:=rfl
@[go_sem] theorem Scr.mode_priv (s : Scr) (a : Int) : (s.set_priv a).mode = s.mode:=rfl
@[go_sem] theorem Scr.priv_priv (s : Scr) (a : Int) : (s.set_priv a).priv = a:=rfl
@[go_sem] theorem Scr.p_priv (s : Scr) (a : Int) : (s.set_priv a).p = s.p:=rfl
@[go_sem] theorem Scr.i_priv (s : Scr) (a : Int) : (s.set_priv a).i = s.i:=rfl
@[go_sem] theorem Scr.u_priv (s : Scr) (a : Int) : (s.set_priv a).u = s.u:=rfl
@[go_sem] theorem Scr.rows_p (s : Scr) (a : Sl) : (s.set_p a).rows = s.rows:=rfl
@[go_sem] theorem Scr.cols_p (s : Scr) (a : Sl) : (s.set_p a).cols = s.cols:=rfl
@[go_sem] theorem Scr.c_p (s : Scr) (a : Sl) : (s.set_p a).c = s.c:=rfl
@[go_sem] theorem Scr.y_p (s : Scr) (a : Sl) : (s.set_p a).y = s.y:=rfl
@[go_sem] theorem Scr.x_p (s : Scr) (a : Sl) : (s.set_p a).x = s.x:=rfl
@[go_sem] theorem Scr.wrap_p (s : Scr) (a : Sl) : (s.set_p a).wrap = s.wrap:=rfl
@[go_sem] theorem Scr.attr_p (s : Scr) (a : Sl) : (s.set_p a).attr = s.attr:=rfl
@[go_sem] theorem Scr.top_p (s : Scr) (a : Sl) : (s.set_p a).top = s.top:=rfl
@[go_sem] theorem Scr.bottom_p (s : Scr) (a : Sl) : (s.set_p a).bottom = s.bottom:=rfl
@[go_sem] theorem Scr.t_p (s : Scr) (a : Sl) : (s.set_p a).t = s.t:=rfl
@[go_sem] theorem Scr.sy_p (s : Scr) (a : Sl) : (s.set_p a).sy = s.sy:=rfl
@[go_sem] theorem Scr.sx_p (s : Scr) (a : Sl) : (s.set_p a).sx = s.sx:=rfl
@[go_sem] theorem Scr.sattr_p (s : Scr) (a : Sl) : (s.set_p a).sattr = s.sattr:=rfl
@[go_sem] theorem Scr.auto_p (s : Scr) (a : Sl) : (s.set_p a).auto = s.auto:=rfl
@[go_sem] theorem Scr.shown_p (s : Scr) (a : Sl) : (s.set_p a).shown = s.shown:=rfl
@[go_sem] theorem Scr.alt_p (s : Scr) (a : Sl) : (s.set_p a).alt = s.alt:=rfl
@[go_sem] theorem Scr.o_p (s : Scr) (a : Sl) : (s.set_p a).o = s.o:=rfl
@[go_sem] theorem Scr.oy_p (s : Scr) (a : Sl) : (s.set_p a).oy = s.oy:=rfl
@[go_sem] theorem Scr.ox_p (s : Scr) (a : Sl) : (s.set_p a).ox = s.ox:=rfl
@[go_sem] theorem Scr.mode_p (s : Scr) (a : Sl) : (s.set_p a).mode = s.mode:=rfl
@[go_sem] theorem Scr.priv_p (s : Scr) (a : Sl) : (s.set_p a).priv = s.priv:=rfl
@[go_sem] theorem Scr.p_p (s : Scr) (a : Sl) : (s.set_p a).p = a:=rfl
@[go_sem] theorem Scr.i_p (s : Scr) (a : Sl) : (s.set_p a).i = s.i:=rfl
@[go_sem] theorem Scr.u_p (s : Scr) (a : Sl) : (s.set_p a).u = s.u:=rfl
@[go_sem] theorem Scr.rows_i (s : Scr) (a : Sl) : (s.set_i a).rows = s.rows:=rfl
@[go_sem] theorem Scr.cols_i (s : Scr) (a : Sl) : (s.set_i a).cols = s.cols:=rfl
@[go_sem] theorem Scr.c_i (s : Scr) (a : Sl) : (s.set_i a).c = s.c:=rfl
@[go_sem] theorem Scr.y_i (s : Scr) (a : Sl) : (s.set_i a).y = s.y:=rfl
@[go_sem] theorem Scr.x_i (s : Scr) (a : Sl) : (s.set_i a).x = s.x:=rfl
@[go_sem] theorem Scr.wrap_i (s : Scr) (a : Sl) : (s.set_i a).wrap = s.wrap:=rfl
@[go_sem] theorem Scr.attr_i (s : Scr) (a : Sl) : (s.set_i a).attr = s.attr:=rfl
@[go_sem] theorem Scr.top_i (s : Scr) (a : Sl) : (s.set_i a).top = s.top:=rfl
@[go_sem] theorem Scr.bottom_i (s : Scr) (a : Sl) : (s.set_i a).bottom = s.bottom:=rfl
@[go_sem] theorem Scr.t_i (s : Scr) (a : Sl) : (s.set_i a).t = s.t:=rfl
@[go_sem] theorem Scr.sy_i (s : Scr) (a : Sl) : (s.set_i a).sy = s.sy:=rfl
@[go_sem] theorem Scr.sx_i (s : Scr) (a : Sl) : (s.set_i a).sx = s.sx:=rfl
@[go_sem] theorem Scr.sattr_i (s : Scr) (a : Sl) : (s.set_i a).sattr = s.sattr:=rfl
@[go_sem] theorem Scr.auto_i (s : Scr) (a : Sl) : (s.set_i a).auto = s.auto:=rfl
@[go_sem] theorem Scr.shown_i (s : Scr) (a : Sl) : (s.set_i a).shown = s.shown:=rfl
@[go_sem] theorem Scr.alt_i (s : Scr) (a : Sl) : (s.set_i a).alt = s.alt:=rfl
@[go_sem] theorem Scr.o_i (s : Scr) (a : Sl) : (s.set_i a).o = s.o:=rfl
@[go_sem] theorem Scr.oy_i (s : Scr) (a : Sl) : (s.set_i a).oy = s.oy:=rfl
@[go_sem] theorem Scr.ox_i (s : Scr) (a : Sl) : (s.set_i a).ox = s.ox:=rfl
@[go_sem] theorem Scr.mode_i (s : Scr) (a : Sl) : (s.set_i a).mode = s.mode:=rfl
@[go_sem] theorem Scr.priv_i (s : Scr) (a : Sl) : (s.set_i a).priv = s.priv:=rfl
@[go_sem] theorem Scr.p_i (s : Scr) (a : Sl) : (s.set_i a).p = s.p:=rfl
@[go_sem] theorem Scr.i_i (s : Scr) (a : Sl) : (s.set_i a).i = a:=rfl
@[go_sem] theorem Scr.u_i (s : Scr) (a : Sl) : (s.set_i a).u = s.u:=rfl
@[go_sem] theorem Scr.rows_u (s : Scr) (a : Sl) : (s.set_u a).rows = s.rows:=rfl
@[go_sem] theorem Scr.cols_u (s : Scr) (a : Sl) : (s.set_u a).cols = s.cols:=rfl
@[go_sem] theorem Scr.c_u (s : Scr) (a : Sl) : (s.set_u a).c = s.c:=rfl
@[go_sem] theorem Scr.y_u (s : Scr) (a : Sl) : (s.set_u a).y = s.y:=rfl
@[go_sem] theorem Scr.x_u (s : Scr) (a : Sl) : (s.set_u a).x = s.x:=rfl
@[go_sem] theorem Scr.wrap_u (s : Scr) (a : Sl) : (s.set_u a).wrap = s.wrap:=rfl
@[go_sem] theorem Scr.attr_u (s : Scr) (a : Sl) : (s.set_u a).attr = s.attr:=rfl
@[go_sem] theorem Scr.top_u (s : Scr) (a : Sl) : (s.set_u a).top = s.top:=rfl
@[go_sem] theorem Scr.bottom_u (s : Scr) (a : Sl) : (s.set_u a).bottom = s.bottom:=rfl
@[go_sem] theorem Scr.t_u (s : Scr) (a : Sl) : (s.set_u a).t = s.t:=rfl
@[go_sem] theorem Scr.sy_u (s : Scr) (a : Sl) : (s.set_u a).sy = s.sy:=rfl
@[go_sem] theorem Scr.sx_u (s : Scr) (a : Sl) : (s.set_u a).sx = s.sx:=rfl
@[go_sem] theorem Scr.sattr_u (s : Scr) (a : Sl) : (s.set_u a).sattr = s.sattr:=rfl
@[go_sem] theorem Scr.auto_u (s : Scr) (a : Sl) : (s.set_u a).auto = s.auto:=rfl
@[go_sem] theorem Scr.shown_u (s : Scr) (a : Sl) : (s.set_u a).shown = s.shown:=rfl
@[go_sem] theorem Scr.alt_u (s : Scr) (a : Sl) : (s.set_u a).alt = s.alt:=rfl
@[go_sem] theorem Scr.o_u (s : Scr) (a : Sl) : (s.set_u a).o = s.o:=rfl
@[go_sem] theorem Scr.oy_u (s : Scr) (a : Sl) : (s.set_u a).oy = s.oy:=rfl
@[go_sem] theorem Scr.ox_u (s : Scr) (a : Sl) : (s.set_u a).ox = s.ox:=rfl
@[go_sem] theorem Scr.mode_u (s : Scr) (a : Sl) : (s.set_u a).mode = s.mode:=rfl
@[go_sem] theorem Scr.priv_u (s : Scr) (a : Sl) : (s.set_u a).priv = s.priv:=rfl
@[go_sem] theorem Scr.p_u (s : Scr) (a : Sl) : (s.set_u a).p = s.p:=rfl
@[go_sem] theorem Scr.i_u (s : Scr) (a : Sl) : (s.set_u a).i = s.i:=rfl
@[go_sem] theorem Scr.u_u (s : Scr) (a : Sl) : (s.set_u a).u = a:=rfl
structure Par where
 mode : Int
 priv : Int
 p : Sl
 i : Sl
 u : Sl
def Par.cs (s : Par) : Array Value:=#[(.int .i64 s.mode),(.int .u8 s.priv),(.slice s.p.A s.p.n s.p.c),(.slice s.i.A s.i.n s.i.c),(.slice s.u.A s.u.n s.u.c)]
def Par.zero : Par:=⟨0,0,⟨none,0,0⟩,⟨none,0,0⟩,⟨none,0,0⟩⟩
theorem Par.size (s : Par) : s.cs.size = 5:=rfl
theorem Par.all (s : Par) : s.cs.all (·.oneCell') = true:=by unfold Par.cs;simp [Value.oneCell']
theorem Par.infoz : (Try.prog.info? 29).map (·.zero) = some (some (.agg #[(.int .i64 0),(.int .u8 0),(.slice none 0 0),(.slice none 0 0),(.slice none 0 0)])):=by kernel_rfl
theorem Par.infos : (Try.prog.info? 29).map (·.size) = some 5:=by kernel_rfl
theorem Par.sizes (s : Par) : (Try.prog.info? 29).map (·.size) = some s.cs.size:=Par.infos
def Par.set_mode (s : Par) (a : Int) : Par:={ s with mode:=a }
theorem Par.get_mode (s : Par) : s.cs[0]? = some (.int .i64 s.mode):=rfl
theorem Par.put_mode (s : Par) (a : Int) : s.cs.setIfInBounds 0 (.int .i64 a) = (s.set_mode a).cs:=rfl
def Par.set_priv (s : Par) (a : Int) : Par:={ s with priv:=a }
theorem Par.get_priv (s : Par) : s.cs[1]? = some (.int .u8 s.priv):=rfl
theorem Par.put_priv (s : Par) (a : Int) : s.cs.setIfInBounds 1 (.int .u8 a) = (s.set_priv a).cs:=rfl
def Par.set_p (s : Par) (a : Sl) : Par:={ s with p:=a }
theorem Par.get_p (s : Par) : s.cs[2]? = some (.slice s.p.A s.p.n s.p.c):=rfl
theorem Par.put_p (s : Par) (a : Sl) : s.cs.setIfInBounds 2 (.slice a.A a.n a.c) = (s.set_p a).cs:=rfl
def Par.set_i (s : Par) (a : Sl) : Par:={ s with i:=a }
theorem Par.get_i (s : Par) : s.cs[3]? = some (.slice s.i.A s.i.n s.i.c):=rfl
theorem Par.put_i (s : Par) (a : Sl) : s.cs.setIfInBounds 3 (.slice a.A a.n a.c) = (s.set_i a).cs:=rfl
def Par.set_u (s : Par) (a : Sl) : Par:={ s with u:=a }
theorem Par.get_u (s : Par) : s.cs[4]? = some (.slice s.u.A s.u.n s.u.c):=rfl
theorem Par.putn_u (s : Par) : s.cs.setIfInBounds 4 (.slice none 0 0) = (s.set_u ⟨none,0,0⟩).cs:=rfl
@[go_sem] theorem Par.mode_mode (s : Par) (a : Int) : (s.set_mode a).mode = a:=rfl
@[go_sem] theorem Par.priv_mode (s : Par) (a : Int) : (s.set_mode a).priv = s.priv:=rfl
@[go_sem] theorem Par.p_mode (s : Par) (a : Int) : (s.set_mode a).p = s.p:=rfl
@[go_sem] theorem Par.i_mode (s : Par) (a : Int) : (s.set_mode a).i = s.i:=rfl
@[go_sem] theorem Par.u_mode (s : Par) (a : Int) : (s.set_mode a).u = s.u:=rfl
@[go_sem] theorem Par.mode_priv (s : Par) (a : Int) : (s.set_priv a).mode = s.mode:=rfl
@[go_sem] theorem Par.priv_priv (s : Par) (a : Int) : (s.set_priv a).priv = a:=rfl
@[go_sem] theorem Par.p_priv (s : Par) (a : Int) : (s.set_priv a).p = s.p:=rfl
@[go_sem] theorem Par.i_priv (s : Par) (a : Int) : (s.set_priv a).i = s.i:=rfl
@[go_sem] theorem Par.u_priv (s : Par) (a : Int) : (s.set_priv a).u = s.u:=rfl
@[go_sem] theorem Par.mode_p (s : Par) (a : Sl) : (s.set_p a).mode = s.mode:=rfl
@[go_sem] theorem Par.priv_p (s : Par) (a : Sl) : (s.set_p a).priv = s.priv:=rfl
@[go_sem] theorem Par.p_p (s : Par) (a : Sl) : (s.set_p a).p = a:=rfl
@[go_sem] theorem Par.i_p (s : Par) (a : Sl) : (s.set_p a).i = s.i:=rfl
@[go_sem] theorem Par.u_p (s : Par) (a : Sl) : (s.set_p a).u = s.u:=rfl
@[go_sem] theorem Par.mode_i (s : Par) (a : Sl) : (s.set_i a).mode = s.mode:=rfl
@[go_sem] theorem Par.priv_i (s : Par) (a : Sl) : (s.set_i a).priv = s.priv:=rfl
@[go_sem] theorem Par.p_i (s : Par) (a : Sl) : (s.set_i a).p = s.p:=rfl
@[go_sem] theorem Par.i_i (s : Par) (a : Sl) : (s.set_i a).i = a:=rfl
@[go_sem] theorem Par.u_i (s : Par) (a : Sl) : (s.set_i a).u = s.u:=rfl
@[go_sem] theorem Par.mode_u (s : Par) (a : Sl) : (s.set_u a).mode = s.mode:=rfl
@[go_sem] theorem Par.priv_u (s : Par) (a : Sl) : (s.set_u a).priv = s.priv:=rfl
@[go_sem] theorem Par.p_u (s : Par) (a : Sl) : (s.set_u a).p = s.p:=rfl
@[go_sem] theorem Par.i_u (s : Par) (a : Sl) : (s.set_u a).i = s.i:=rfl
@[go_sem] theorem Par.u_u (s : Par) (a : Sl) : (s.set_u a).u = a:=rfl
structure Ac where
 kind : Int
 r : Int
 b : Int
 priv : Int
 p : Sl
 i : Sl
def Ac.cs (s : Ac) : Array Value:=#[(.int .i64 s.kind),(.int .i32 s.r),(.int .u8 s.b),(.int .u8 s.priv),(.slice s.p.A s.p.n s.p.c),(.slice s.i.A s.i.n s.i.c)]
def Ac.zero : Ac:=⟨0,0,0,0,⟨none,0,0⟩,⟨none,0,0⟩⟩
theorem Ac.size (s : Ac) : s.cs.size = 6:=rfl
theorem Ac.all (s : Ac) : s.cs.all (·.oneCell') = true:=by unfold Ac.cs;simp [Value.oneCell']
theorem Ac.infoz : (Try.prog.info? 87).map (·.zero) = some (some (.agg #[(.int .i64 0),(.int .i32 0),(.int .u8 0),(.int .u8 0),(.slice none 0 0),(.slice none 0 0)])):=by kernel_rfl
theorem Ac.infos : (Try.prog.info? 87).map (·.size) = some 6:=by kernel_rfl
theorem Ac.sizes (s : Ac) : (Try.prog.info? 87).map (·.size) = some s.cs.size:=Ac.infos
theorem Ac.get_kind (s : Ac) : s.cs[0]? = some (.int .i64 s.kind):=rfl
theorem Ac.get_r (s : Ac) : s.cs[1]? = some (.int .i32 s.r):=rfl
theorem Ac.get_b (s : Ac) : s.cs[2]? = some (.int .u8 s.b):=rfl
def Ac.set_priv (s : Ac) (a : Int) : Ac:={ s with priv:=a }
theorem Ac.get_priv (s : Ac) : s.cs[3]? = some (.int .u8 s.priv):=rfl
theorem Ac.put_priv (s : Ac) (a : Int) : s.cs.setIfInBounds 3 (.int .u8 a) = (s.set_priv a).cs:=rfl
def Ac.set_p (s : Ac) (a : Sl) : Ac:={ s with p:=a }
theorem Ac.get_p (s : Ac) : s.cs[4]? = some (.slice s.p.A s.p.n s.p.c):=rfl
theorem Ac.put_p (s : Ac) (a : Sl) : s.cs.setIfInBounds 4 (.slice a.A a.n a.c) = (s.set_p a).cs:=rfl
def Ac.set_i (s : Ac) (a : Sl) : Ac:={ s with i:=a }
theorem Ac.get_i (s : Ac) : s.cs[5]? = some (.slice s.i.A s.i.n s.i.c):=rfl
theorem Ac.put_i (s : Ac) (a : Sl) : s.cs.setIfInBounds 5 (.slice a.A a.n a.c) = (s.set_i a).cs:=rfl
@[go_sem] theorem Ac.kind_priv (s : Ac) (a : Int) : (s.set_priv a).kind = s.kind:=rfl
@[go_sem] theorem Ac.r_priv (s : Ac) (a : Int) : (s.set_priv a).r = s.r:=rfl
@[go_sem] theorem Ac.b_priv (s : Ac) (a : Int) : (s.set_priv a).b = s.b:=rfl
@[go_sem] theorem Ac.priv_priv (s : Ac) (a : Int) : (s.set_priv a).priv = a:=rfl
@[go_sem] theorem Ac.p_priv (s : Ac) (a : Int) : (s.set_priv a).p = s.p:=rfl
@[go_sem] theorem Ac.i_priv (s : Ac) (a : Int) : (s.set_priv a).i = s.i:=rfl
@[go_sem] theorem Ac.kind_p (s : Ac) (a : Sl) : (s.set_p a).kind = s.kind:=rfl
@[go_sem] theorem Ac.r_p (s : Ac) (a : Sl) : (s.set_p a).r = s.r:=rfl
@[go_sem] theorem Ac.b_p (s : Ac) (a : Sl) : (s.set_p a).b = s.b:=rfl
@[go_sem] theorem Ac.priv_p (s : Ac) (a : Sl) : (s.set_p a).priv = s.priv:=rfl
@[go_sem] theorem Ac.p_p (s : Ac) (a : Sl) : (s.set_p a).p = a:=rfl
@[go_sem] theorem Ac.i_p (s : Ac) (a : Sl) : (s.set_p a).i = s.i:=rfl
@[go_sem] theorem Ac.kind_i (s : Ac) (a : Sl) : (s.set_i a).kind = s.kind:=rfl
@[go_sem] theorem Ac.r_i (s : Ac) (a : Sl) : (s.set_i a).r = s.r:=rfl
@[go_sem] theorem Ac.b_i (s : Ac) (a : Sl) : (s.set_i a).b = s.b:=rfl
@[go_sem] theorem Ac.priv_i (s : Ac) (a : Sl) : (s.set_i a).priv = s.priv:=rfl
@[go_sem] theorem Ac.p_i (s : Ac) (a : Sl) : (s.set_i a).p = s.p:=rfl
@[go_sem] theorem Ac.i_i (s : Ac) (a : Sl) : (s.set_i a).i = a:=rfl
end Go.Proofs.Ytooageeehallbaa.Scr
namespace Go.Proofs.Ytooageeehallbaa
open Go Go.RowKit Go.Proofs.YtooageeehallbaaW.PrintWords Go.Proofs.YtooageeehallbaaW.PrintLast Go.Proofs.YtooageeehallbaaW.PrintMore
abbrev zA := @Aside0.mk
abbrev zC := @decide_eq_true
abbrev zD := @decide_eq_false
abbrev zE := @Below.refl
abbrev zI := @gate_callee
abbrev zS := @List.map_toArray
abbrev zT := @List.map_cons
abbrev zU := @List.map_nil
abbrev zX := @Option.bind_some
end Go.Proofs.Ytooageeehallbaa
namespace Go.Proofs.Ytooageeehallbaa.QRunsCut
open Go.RowKit Go.Proofs.YtooageeehallbaaW.PrintWords Go.Proofs.YtooageeehallbaaW.PrintLast Go.Proofs.YtooageeehallbaaW.PrintMore
attribute [local go_sem] max2_int min2_int max_two min_two max_three min_three max_four min_four 
set_option linter.unusedVariables false
set_option linter.unusedSimpArgs false
/-! ### repriseref7_formed: function 61 -/
def repriseref7_formed.f (l0 : List Int) (a1 : Int) : Option (Bool):=if (l0.length : Int) = 2 then (if 0 < (l0.length : Int) then (if (rd l0 0) = 239 then (if 1 < (l0.length : Int) then (if (rd l0 1) = 191 then (some (a1 == 189)) else (some false)) else (none)) else (some false)) else (none)) else (some false)
set_option maxHeartbeats 8000000 in
set_option maxRecDepth 100000 in
theorem repriseref7_formed.calls (A0 : Option Addr) (c0 : Nat) (l0 : List Int) (a1 : Int) (r : Bool) (w : World) (hr0 : Kd.C (Kd.int .u8) w A0 l0.length l0) (hc0 : l0.length ≤ c0) (h : repriseref7_formed.f l0 a1 = some r) :
 Calls Try.prog 61 #[.slice A0 l0.length c0,.int .u8 a1] w fun e w'=>e = .returned (.bool r)∧Drawn0 w w':=by
 have HR0:=zA hr0;have HC0:=zA hc0;clear hr0 hc0;have H : (if (l0.length : Int) = 2 then (if 0 < (l0.length : Int) then (if (rd l0 0) = 239 then (if 1 < (l0.length : Int) then (if (rd l0 1) = 191 then (some (a1 == 189)) else (some false)) else (none)) else (some false)) else (none)) else (some false)) = some r:=h;clear h;by_cases c3 : (l0.length : Int) = 2
 ·rw [if_pos c3] at H;have c3b0 : ((l0.length : Int) == 2) = true:=beq_iff_eq.mpr c3;have c3b1 : ((l0.length : Int) != 2) = false:=bne_eq_false_iff_eq.mpr c3;clear c3;by_cases c4 : 0 < (l0.length : Int)
  ·rw [if_pos c4] at H;have c4b0 : decide (0 < (l0.length : Int)) = true:=zC c4;have c4b1 : decide (0 < l0.length) = true:=zC (by omega);clear c4;by_cases c5 : (rd l0 0) = 239
   ·rw [if_pos c5] at H;have c5b0 : ((rd l0 0) == 239) = true:=beq_iff_eq.mpr c5;have c5b1 : ((rd l0 0) != 239) = false:=bne_eq_false_iff_eq.mpr c5;clear c5;by_cases c6 : 1 < (l0.length : Int)
    ·rw [if_pos c6] at H;have c6b0 : decide (1 < (l0.length : Int)) = true:=zC c6;have c6b1 : decide (1 < l0.length) = true:=zC (by omega);clear c6;by_cases c7 : (rd l0 1) = 191
     ·rw [if_pos c7] at H;have c7b0 : ((rd l0 1) == 191) = true:=beq_iff_eq.mpr c7;have c7b1 : ((rd l0 1) != 191) = false:=bne_eq_false_iff_eq.mpr c7;clear c7;obtain rfl:=zY H;have p162 : 0 ≤ (0 : Int):=(by omega);have q162 : 0 < (l0.length : Int):=od;obtain ⟨ad162,e162,hx162_0⟩:=Kd.at_int HR0.out 0 p162 q162;cases e162;have qi162 : (0 < l0.length) = True:=eq_true (by omega);(try rw [show ((0 : Int)).toNat = 0 from rfl] at hx162_0);(try rw [Addr.add_zero'] at hx162_0);replace p162:=eq_true p162;replace q162:=eq_true q162;have p163 : 0 ≤ (1 : Int):=(by omega);have q163 : 1 < (l0.length : Int):=od;obtain ⟨ad163,e163,hx163_0⟩:=Kd.at_int HR0.out 1 p163 q163;obtain rfl : ad162 = ad163:=(by injection e163);(try simp only [show (1 : Int).toNat = 1 from rfl,Nat.reduceMul,Nat.reduceEqDiff,Go.Addr.add,↓reduceIte] at hx163_0);have qi163 : (1 < l0.length) = True:=eq_true (by omega);replace p163:=eq_true p163;replace q163:=eq_true q163;go_enter Try.func61,Try.ntmps61
      go_wp2;go_ret;exact ⟨by rfl,by exact Drawn0.refl _⟩
     ·rw [if_neg c7] at H;have c7b0 : ((rd l0 1) == 191) = false:=beq_eq_false_iff_ne.mpr c7;have c7b1 : ((rd l0 1) != 191) = true:=bne_iff_ne.mpr c7;obtain rfl:=zY H;have p162 : 0 ≤ (0 : Int):=(by omega);have q162 : 0 < (l0.length : Int):=od;obtain ⟨ad162,e162,hx162_0⟩:=Kd.at_int HR0.out 0 p162 q162;cases e162;have qi162 : (0 < l0.length) = True:=eq_true (by omega);(try rw [show ((0 : Int)).toNat = 0 from rfl] at hx162_0);(try rw [Addr.add_zero'] at hx162_0);replace p162:=eq_true p162;replace q162:=eq_true q162;have p163 : 0 ≤ (1 : Int):=(by omega);have q163 : 1 < (l0.length : Int):=od;obtain ⟨ad163,e163,hx163_0⟩:=Kd.at_int HR0.out 1 p163 q163;obtain rfl : ad162 = ad163:=(by injection e163);(try simp only [show (1 : Int).toNat = 1 from rfl,Nat.reduceMul,Nat.reduceEqDiff,Go.Addr.add,↓reduceIte] at hx163_0);have qi163 : (1 < l0.length) = True:=eq_true (by omega);replace p163:=eq_true p163;replace q163:=eq_true q163;go_enter Try.func61,Try.ntmps61
      go_wp2;go_ret;exact ⟨by rfl,by exact Drawn0.refl _⟩
    ·rw [if_neg c6] at H;exact absurd H (by simp)
   ·rw [if_neg c5] at H;have c5b0 : ((rd l0 0) == 239) = false:=beq_eq_false_iff_ne.mpr c5;have c5b1 : ((rd l0 0) != 239) = true:=bne_iff_ne.mpr c5;obtain rfl:=zY H;have p162 : 0 ≤ (0 : Int):=(by omega);have q162 : 0 < (l0.length : Int):=od;obtain ⟨ad162,e162,hx162_0⟩:=Kd.at_int HR0.out 0 p162 q162;cases e162;have qi162 : (0 < l0.length) = True:=eq_true (by omega);(try rw [show ((0 : Int)).toNat = 0 from rfl] at hx162_0);(try rw [Addr.add_zero'] at hx162_0);replace p162:=eq_true p162;replace q162:=eq_true q162;go_enter Try.func61,Try.ntmps61
    go_wp2;go_ret;exact ⟨by rfl,by exact Drawn0.refl _⟩
  ·rw [if_neg c4] at H;exact absurd H (by simp)
 ·rw [if_neg c3] at H;have c3b0 : ((l0.length : Int) == 2) = false:=beq_eq_false_iff_ne.mpr c3;have c3b1 : ((l0.length : Int) != 2) = true:=bne_iff_ne.mpr c3;obtain rfl:=zY H;go_enter Try.func61,Try.ntmps61
  go_wp2;go_ret;exact ⟨by rfl,by exact Drawn0.refl _⟩
/-! ### repriseref7_prints: function 62 -/
def repriseref7_prints.l0 : Nat → List Int → List (S87) → Int → Option ((List (S87)))
|0,_,_,_=>none
|k + 1,x0,x3,x4=>if x4 < (x0.length : Int) then (if 0 ≤ x4 then (if x3.length < 2199023255552 then (repriseref7_prints.l0 k x0 (x3 ++ [(⟨0,rd x0 x4,0,0,([] : List Int),([] : List Int)⟩ : S87)]) (wrap64 (x4 + 1))) else (none)) else (none)) else (some x3)
def repriseref7_prints.f (k : Nat) (l0 : List Int) : Option ((List (S87))):=repriseref7_prints.l0 k l0 ([] : List (S87)) 0
theorem repriseref7_prints.mono_l : ∀ k,(∀ y0 y1 y2,LeO (repriseref7_prints.l0 k y0 y1 y2) (repriseref7_prints.l0 (k + 1) y0 y1 y2))
|0=>fun _ _ _ r h=>by simp [repriseref7_prints.l0] at h
|k + 1=>by
  have ih0:=repriseref7_prints.mono_l k
  ·intro y0 y1 y2;unfold repriseref7_prints.l0;repeat' first
  |(with_reducible exact ih0 _ _ _)
  |(with_reducible exact LeO.refl _)
  |(with_reducible exact LeO.none _)
  |(with_reducible refine LeO.ite ?_ ?_)
  |(with_reducible refine LeO.bind ?_ (fun _=>?_))
  |exact ih0 _ _ _
  |exact LeO.none _
  |refine LeO.ite ?_ ?_
  |refine LeO.bind ?_ (fun _=>?_)
theorem repriseref7_prints.mono : ∀ a0 k,LeO (repriseref7_prints.f k a0) (repriseref7_prints.f (k + 1) a0):=by
 intro a0 k;have ih0:=repriseref7_prints.mono_l k;unfold repriseref7_prints.f;repeat' first
 |(with_reducible exact ih0 _ _ _)
 |(with_reducible exact LeO.refl _)
 |(with_reducible exact LeO.none _)
 |(with_reducible refine LeO.ite ?_ ?_)
 |(with_reducible refine LeO.bind ?_ (fun _=>?_))
 |exact ih0 _ _ _
 |exact LeO.none _
 |refine LeO.ite ?_ ?_
 |refine LeO.bind ?_ (fun _=>?_)
set_option maxHeartbeats 8000000 in
set_option maxRecDepth 100000 in
theorem repriseref7_prints.calls (k : Nat) (A0 : Option Addr) (c0 : Nat) (l0 : List Int) (r : List (S87)) (w : World) (hr0 : Kd.C (Kd.int .i32) w A0 l0.length l0) (hc0 : l0.length ≤ c0) (h : repriseref7_prints.f k l0 = some r) :
 Calls Try.prog 62 #[.slice A0 l0.length c0] w fun e w'=>∃ v0_ : Value,e = .returned (v0_)∧Kd.S k87 87 w' w.heap.size (fun _=>True) v0_ r∧Below w.heap.size w w':=by
 have hu87:=Try.underlying87;have HR0:=zA hr0;have HC0:=zA hc0;clear hr0 hc0;have HB:=zA (zE w.heap.size w);have H : (repriseref7_prints.l0 k l0 ([] : List (S87)) 0) = some r:=h;clear h;have H':=zA H;clear H;go_enter Try.func62,Try.ntmps62
 go_wp2;go_loopg [3,4] k (fun kq v3 v4 w'=>∃ (x3_1 : List (S87)) (x4_1 : Int),v4 = .int .i64 x4_1∧Aside0 (repriseref7_prints.l0 kq l0 x3_1 x4_1 = some r)∧Aside0 (kq ≤ k)∧Aside0 (Kd.S k87 87 w' w.heap.size (fun _=>True) v3 x3_1)∧Aside0 (Below w.heap.size w w'))
 case atStart=>exact ⟨(([] : List (S87))),(0),(by rfl),H',⟨Nat.le_refl _⟩,⟨by exact Kd.S_nil _ _ _ _ _⟩,⟨HB.out⟩⟩
 case round =>
  clear H';obtain ⟨x3_1,x4_1,rfl,HA,HK1,HO_3,HB⟩:=hrel;cases gk with
 |zero=>exact absurd HA.out (by simp [repriseref7_prints.l0])
 |succ k1 =>
   have H:=HA.out;clear HA;simp only [repriseref7_prints.l0] at H;by_cases c2 : x4_1 < (l0.length : Int)
   ·rw [if_pos c2] at H;have c2b0 : decide (x4_1 < (l0.length : Int)) = true:=zC c2;clear c2;by_cases c3 : 0 ≤ x4_1
    ·rw [if_pos c3] at H;have c3b0 : decide (0 ≤ x4_1) = true:=zC c3;clear c3;by_cases c4 : x3_1.length < 2199023255552
     ·rw [if_pos c4] at H;have LMc4:=zA c4;clear c4;obtain ⟨y165,hy165⟩ : ∃ y_ : List (S87),y_ = (x3_1 ++ [(⟨0,rd l0 x4_1,0,0,([] : List Int),([] : List Int)⟩ : S87)]):=⟨_,rfl⟩;replace H : (repriseref7_prints.l0 k1 l0 y165 (wrap64 (x4_1 + 1))) = some r:=by (rw [hy165];with_reducible exact H)
      have Ny165:=zA hy165;clear hy165;have H':=zA H;clear H;have p164 : 0 ≤ (x4_1 : Int):=od;have q164 : x4_1 < (l0.length : Int):=od;obtain ⟨ad164,e164,hx164_0⟩:=Kd.at_int HR0.out x4_1 p164 q164;cases e164;replace hx164_0:=cx HB hx164_0;replace p164:=eq_true p164;replace q164:=eq_true q164;go_wp2_with (((with_reducible refine gate_builtin (b:=.append) (xs:=#[.tmp 11,.tmp 17]) rfl ?_);at_builtin;refine Kd.S_append k87 (w0:=w) w.heap.size rfl (.tmp 11) (.tmp 17) 82 87 (.agg #[(.int .i64 0),(.int .i32 0),(.int .u8 0),(.int .u8 0),(.slice none 0 0),(.slice none 0 0)]) 64 rfl Try.underlying82 info87 rfl (by decide) (by omega) u3 x3_1 (⟨0,rd l0 x4_1,0,0,([] : List Int),([] : List Int)⟩ : S87) [.int .i64 0,.int .i32 (rd l0 x4_1),.int .u8 0,.int .u8 0,.slice none 0 0,.slice none 0 0] (fun _=>True) (fun _=>False) rfl rfl ?aP (fun k_ hk_=>hk_.elim) ?aF ?aO ?aB ?aS ?aL ?_;(case aP=>exact k87_mkM _ _ _ (⟨0,rd l0 x4_1,0,0,([] : List Int),([] : List Int)⟩ : S87) (Kd.R_nil _ _ _ _ _) (Kd.R_nil _ _ _ _ _));(case aB=>exact HB.out);(case aF=>exact (fun _ _=>trivial));(case aO=>exact (by exact Kd.S_mono HO_3.out (fun k_ hk=>⟨trivial,fun e_=>e_⟩)));(case aS=>exact (below_size HB.out));(case aL=>have:=LMc4.out;omega);intro v166 w5 ho hb hg hat;rw [← Ny165.out] at ho;have n0_:=zA (hb);have n1_:=zA (ho);clear HB;clear HO_3;have HB:=n0_;have HO167:=n1_;clear n0_ n1_;clear ho hb hg hat));go_roundg k1
      case measure=>have:=HK1.out;omega
      case rel=>exact ⟨(y165),(wrap64 (x4_1 + 1)),(by rfl),H',⟨by have:=HK1.out;omega⟩,⟨HO167.out⟩,⟨HB.out⟩⟩
     ·rw [if_neg c4] at H;exact absurd H (by simp)
    ·rw [if_neg c3] at H;exact absurd H (by simp)
   ·rw [if_neg c2] at H;have c2b0 : decide (x4_1 < (l0.length : Int)) = false:=zD c2;clear c2;obtain rfl:=zY H;go_wp2;go_ret;exact ⟨_,by rfl,HO_3.out,HB.out⟩
/-! ### repriseref7_inter: function 71 -/
def repriseref7_inter.f (a0 : Int) : Option (Bool):=if a0 ≥ 32 then (some (decide (a0 ≤ 47))) else (some false)
set_option maxHeartbeats 8000000 in
set_option maxRecDepth 100000 in
theorem repriseref7_inter.calls (a0 : Int) (r : Bool) (w : World) (h : repriseref7_inter.f a0 = some r) :
 Calls Try.prog 71 #[.int .u8 a0] w fun e w'=>e = .returned (.bool r)∧Drawn0 w w':=by
 have H : (if a0 ≥ 32 then (some (decide (a0 ≤ 47))) else (some false)) = some r:=h;clear h;by_cases c2 : a0 ≥ 32
 ·rw [if_pos c2] at H;have c2b0 : decide (32 ≤ a0) = true:=zC c2;clear c2;obtain rfl:=zY H;go_enter Try.func71,Try.ntmps71
  go_wp2;go_ret;exact ⟨by rfl,by exact Drawn0.refl _⟩
 ·rw [if_neg c2] at H;have c2b0 : decide (32 ≤ a0) = false:=zD c2;clear c2;obtain rfl:=zY H;go_enter Try.func71,Try.ntmps71
  go_wp2;go_ret;exact ⟨by rfl,by exact Drawn0.refl _⟩
/-! ### repriseref7_with: function 72 -/
def repriseref7_with.f (l0 : List Int) (a1 : Int) : Option (List Int):=if ([] : List Int).length + l0.length < 140737488355328 then ((some (([] : List Int) ++ l0 : List Int)).bind fun y168=>(if y168.length < 140737488355328 then (some (y168 ++ [a1])) else (none))) else (none)
set_option maxHeartbeats 8000000 in
set_option maxRecDepth 100000 in
theorem repriseref7_with.calls (A0 : Option Addr) (c0 : Nat) (l0 : List Int) (a1 : Int) (r : List Int) (w : World) (hr0 : Kd.C (Kd.int .u8) w A0 l0.length l0) (hc0 : l0.length ≤ c0) (h : repriseref7_with.f l0 a1 = some r) :
 Calls Try.prog 72 #[.slice A0 l0.length c0,.int .u8 a1] w fun e w'=>∃ v0_ : Value,e = .returned (v0_)∧Kd.R (Kd.int .u8) 5 w' w.heap.size (fun _=>True) v0_ r∧Below w.heap.size w w':=by
 have HR0:=zA hr0;have HC0:=zA hc0;clear hr0 hc0;have HB:=zA (zE w.heap.size w);have H : (if ([] : List Int).length + l0.length < 140737488355328 then ((some (([] : List Int) ++ l0 : List Int)).bind fun y168=>(if y168.length < 140737488355328 then (some (y168 ++ [a1])) else (none))) else (none)) = some r:=h;clear h;by_cases c3 : ([] : List Int).length + l0.length < 140737488355328
 ·rw [if_pos c3] at H;have LMc3:=zA c3;clear c3;obtain ⟨y168,hy168⟩ : ∃ y_ : List Int,y_ = (([] : List Int) ++ l0):=⟨_,rfl⟩;replace H : (if y168.length < 140737488355328 then (some (y168 ++ [a1])) else (none)) = some r:=by (have H2_:=(zX _ _).symm.trans H;rw [hy168];with_reducible exact H2_)
  have Ny168:=zA hy168;clear hy168;by_cases c4 : y168.length < 140737488355328
  ·rw [if_pos c4] at H;have LMc4:=zA c4;clear c4;obtain ⟨y171,hy171⟩ : ∃ y_ : List Int,y_ = (y168 ++ [a1]):=⟨_,rfl⟩;replace H : (some y171) = some r:=by (rw [hy171];with_reducible exact H)
   have Ny171:=zA hy171;clear hy171;obtain rfl:=zY H;go_enter Try.func72,Try.ntmps72
   go_wp2_with (first|((with_reducible refine gate_builtin (b:=.append) (xs:=#[.const (.slice none 0 0),.tmp 5]) rfl ?_);at_builtin;refine Kd.R_append_rows (Kd.int .u8) (w0:=w) w.heap.size rfl (.const (.slice none 0 0)) (.tmp 5) 22 5 (.int .u8 0) 1 rfl Try.underlying22 info5 rfl (by decide) (by omega) (.slice none 0 0) ([] : List Int) l0 _ _ _ (fun _=>True) (fun _=>False) rfl rfl ?aO ?aR (fun _ _ h=>h) (fun _ h=>h.elim) ?aF ?aB ?aS ?aL ?_;(case aR=>exact HR0.out);(case aB=>exact HB.out);(case aF=>exact (fun _ _=>trivial));(case aO=>exact ((Kd.R_nil _ _ _ _ (fun _=>True))));(case aS=>exact (below_size HB.out));(case aL=>have:=LMc3.out;omega);intro v169 w5 ho hb hg hat;rw [← Ny168.out] at ho;have n0_:=zA (hb);have n1_:=zA (ho);clear HB;have HB:=n0_;have HO170:=n1_;clear n0_ n1_;clear ho hb hg hat)|((with_reducible refine gate_builtin (b:=.append) (xs:=#[.tmp 6,.tmp 8]) rfl ?_);at_builtin;refine Kd.R_append (Kd.int .u8) (w0:=w) w.heap.size rfl (.tmp 6) (.tmp 8) 22 5 (.int .u8 0) 1 rfl Try.underlying22 info5 rfl (by decide) (by omega) v169 y168 a1 [.int .u8 a1] (fun _=>True) (fun _=>False) rfl rfl ?aP (fun _ hk=>hk.elim) ?aF ?aO ?aB ?aS ?aL ?_;(case aP=>exact rfl);(case aB=>exact HB.out);(case aF=>exact (fun _ _=>trivial));(case aO=>exact HO170.out);(case aS=>exact (below_size HB.out));(case aL=>have:=LMc4.out;omega);intro v172 w6 ho hb hg hat;rw [← Ny171.out] at ho;have n0_:=zA (hb);have n1_:=zA (ho);clear HB;clear HO170;have HB:=n0_;have HO173:=n1_;clear n0_ n1_;clear ho hb hg hat));go_ret;exact ⟨_,by rfl,HO173.out,HB.out⟩
  ·rw [if_neg c4] at H;exact absurd H (by simp)
 ·rw [if_neg c3] at H;exact absurd H (by simp)
/-! ### repriseref7_own: function 51 -/
def repriseref7_own.f (l0 : List (S35)) : Option ((List (S35))):=if ([] : List (S35)).length + l0.length < 17592186044416 then (some (([] : List (S35)) ++ l0)) else (none)
set_option maxHeartbeats 8000000 in
set_option maxRecDepth 100000 in
theorem repriseref7_own.calls (A0 : Option Addr) (c0 : Nat) (l0 : List (S35)) (r : List (S35)) (w : World) (hr0 : Kd.C k35 w A0 l0.length l0) (hc0 : l0.length ≤ c0) (h : repriseref7_own.f l0 = some r) :
 Calls Try.prog 51 #[.slice A0 l0.length c0] w fun e w'=>∃ v0_ : Value,e = .returned (v0_)∧Kd.R k35 35 w' w.heap.size (fun _=>True) v0_ r∧Below w.heap.size w w':=by
 have HR0:=zA hr0;have HC0:=zA hc0;clear hr0 hc0;have HB:=zA (zE w.heap.size w);have H : (if ([] : List (S35)).length + l0.length < 17592186044416 then (some (([] : List (S35)) ++ l0)) else (none)) = some r:=h;clear h;by_cases c2 : ([] : List (S35)).length + l0.length < 17592186044416
 ·rw [if_pos c2] at H;have LMc2:=zA c2;clear c2;obtain ⟨y292,hy292⟩ : ∃ y_ : List (S35),y_ = (([] : List (S35)) ++ l0):=⟨_,rfl⟩;replace H : (some y292) = some r:=by (rw [hy292];with_reducible exact H)
  have Ny292:=zA hy292;clear hy292;obtain rfl:=zY H;go_enter Try.func51,Try.ntmps51
  go_wp2_with (((with_reducible refine gate_builtin (b:=.append) (xs:=#[.const (.slice none 0 0),.tmp 3]) rfl ?_);at_builtin;refine Kd.R_append_rows k35 (w0:=w) w.heap.size rfl (.const (.slice none 0 0)) (.tmp 3) 24 35 (.agg #[(.int .i32 0),(.int .u16 0),(.int .u8 0)]) 8 rfl Try.underlying24 info35 rfl (by decide) (by omega) (.slice none 0 0) ([] : List (S35)) l0 _ _ _ (fun _=>True) (fun _=>False) rfl rfl ?aO ?aR (fun _ _ h=>h) (fun _ h=>h.elim) ?aF ?aB ?aS ?aL ?_;(case aR=>exact HR0.out);(case aB=>exact HB.out);(case aF=>exact (fun _ _=>trivial));(case aO=>exact ((Kd.R_nil _ _ _ _ (fun _=>True))));(case aS=>exact (below_size HB.out));(case aL=>have:=LMc2.out;omega);intro v293 w3 ho hb hg hat;rw [← Ny292.out] at ho;have n0_:=zA (hb);have n1_:=zA (ho);clear HB;have HB:=n0_;have HO294:=n1_;clear n0_ n1_;clear ho hb hg hat));go_ret;exact ⟨_,by rfl,HO294.out,HB.out⟩
 ·rw [if_neg c2] at H;exact absurd H (by simp)
/-! ### repriseref7_grid: function 52 -/
def repriseref7_grid.f (l0 : List (S35)) (a1 : Int) : Option (Int × Bool):=if a1 < 1 then (some (0,false)) else (if a1 > 1000 then (some (0,false)) else (if a1 = 0 then (none) else (if ((l0.length : Int) % a1) = 0 then (if (wrap64 ((l0.length : Int) / a1)) < 1 then (some (0,false)) else (if (wrap64 ((l0.length : Int) / a1)) > 1000 then (some (0,false)) else (some (wrap64 ((l0.length : Int) / a1),true)))) else (some (0,false)))))
set_option maxHeartbeats 8000000 in
set_option maxRecDepth 100000 in
theorem repriseref7_grid.calls (A0 : Option Addr) (c0 : Nat) (l0 : List (S35)) (a1 : Int) (r1 : Int) (r2 : Bool) (w : World) (hr0 : Kd.C k35 w A0 l0.length l0) (hc0 : l0.length ≤ c0) (h : repriseref7_grid.f l0 a1 = some (r1,r2)) :
 Calls Try.prog 52 #[.slice A0 l0.length c0,.int .i64 a1] w fun e w'=>e = .returned (.tuple #[.int .i64 r1,.bool r2])∧Drawn0 w w':=by
 have HR0:=zA hr0;have HC0:=zA hc0;clear hr0 hc0;have H : (if a1 < 1 then (some (0,false)) else (if a1 > 1000 then (some (0,false)) else (if a1 = 0 then (none) else (if ((l0.length : Int) % a1) = 0 then (if (wrap64 ((l0.length : Int) / a1)) < 1 then (some (0,false)) else (if (wrap64 ((l0.length : Int) / a1)) > 1000 then (some (0,false)) else (some (wrap64 ((l0.length : Int) / a1),true)))) else (some (0,false)))))) = some (r1,r2):=h;clear h;by_cases c3 : a1 < 1
 ·rw [if_pos c3] at H;have c3b0 : decide (a1 < 1) = true:=zC c3;clear c3;simp only [Option.some.injEq,Prod.mk.injEq] at H;obtain ⟨rfl,rfl⟩:=H;go_enter Try.func52,Try.ntmps52
  go_wp2;go_ret2;exact ⟨by rfl,by exact Drawn0.refl _⟩
 ·rw [if_neg c3] at H;have c3b0 : decide (a1 < 1) = false:=zD c3;clear c3;by_cases c4 : a1 > 1000
  ·rw [if_pos c4] at H;have c4b0 : decide (1000 < a1) = true:=zC c4;clear c4;simp only [Option.some.injEq,Prod.mk.injEq] at H;obtain ⟨rfl,rfl⟩:=H;go_enter Try.func52,Try.ntmps52
   go_wp2;go_ret2;exact ⟨by rfl,by exact Drawn0.refl _⟩
  ·rw [if_neg c4] at H;have c4b0 : decide (1000 < a1) = false:=zD c4;clear c4;by_cases c5 : a1 = 0
   ·rw [if_pos c5] at H;exact absurd H (by simp)
   ·rw [if_neg c5] at H;have c5b0 : (a1 == 0) = false:=beq_eq_false_iff_ne.mpr c5;have c5b1 : (a1 != 0) = true:=bne_iff_ne.mpr c5;by_cases c6 : ((l0.length : Int) % a1) = 0
    ·rw [if_pos c6] at H;have c6b0 : (((l0.length : Int) % a1) == 0) = true:=beq_iff_eq.mpr c6;have c6b1 : (((l0.length : Int) % a1) != 0) = false:=bne_eq_false_iff_eq.mpr c6;clear c6;by_cases c7 : (wrap64 ((l0.length : Int) / a1)) < 1
     ·rw [if_pos c7] at H;have c7b0 : decide ((wrap64 ((l0.length : Int) / a1)) < 1) = true:=zC c7;clear c7;simp only [Option.some.injEq,Prod.mk.injEq] at H;obtain ⟨rfl,rfl⟩:=H;go_enter Try.func52,Try.ntmps52
      go_wp2;go_ret2;exact ⟨by rfl,by exact Drawn0.refl _⟩
     ·rw [if_neg c7] at H;have c7b0 : decide ((wrap64 ((l0.length : Int) / a1)) < 1) = false:=zD c7;clear c7;by_cases c8 : (wrap64 ((l0.length : Int) / a1)) > 1000
      ·rw [if_pos c8] at H;have c8b0 : decide (1000 < (wrap64 ((l0.length : Int) / a1))) = true:=zC c8;clear c8;simp only [Option.some.injEq,Prod.mk.injEq] at H;obtain ⟨rfl,rfl⟩:=H;go_enter Try.func52,Try.ntmps52
       go_wp2;go_ret2;exact ⟨by rfl,by exact Drawn0.refl _⟩
      ·rw [if_neg c8] at H;have c8b0 : decide (1000 < (wrap64 ((l0.length : Int) / a1))) = false:=zD c8;clear c8;simp only [Option.some.injEq,Prod.mk.injEq] at H;obtain ⟨rfl,rfl⟩:=H;go_enter Try.func52,Try.ntmps52
       go_wp2;go_ret2;exact ⟨by rfl,by exact Drawn0.refl _⟩
    ·rw [if_neg c6] at H;have c6b0 : (((l0.length : Int) % a1) == 0) = false:=beq_eq_false_iff_ne.mpr c6;have c6b1 : (((l0.length : Int) % a1) != 0) = true:=bne_iff_ne.mpr c6;simp only [Option.some.injEq,Prod.mk.injEq] at H;obtain ⟨rfl,rfl⟩:=H;go_enter Try.func52,Try.ntmps52
     go_wp2;go_ret2;exact ⟨by rfl,by exact Drawn0.refl _⟩
/-! ### repriseref7_place: function 54 -/
def repriseref7_place.f (l0 : List (S35)) (a1 : Int) (a2 : Int) (a3 : Int) : Option (Bool):=(repriseref7_grid.f l0 a1).bind fun bt295=>(if bt295.2 = true then (if a2 ≥ 0 then (if a2 < bt295.1 then (if a3 ≥ 0 then (some (decide (a3 ≤ a1))) else (some false)) else (some false)) else (some false)) else (some false))
set_option maxHeartbeats 8000000 in
set_option maxRecDepth 100000 in
theorem repriseref7_place.calls (A0 : Option Addr) (c0 : Nat) (l0 : List (S35)) (a1 : Int) (a2 : Int) (a3 : Int) (r : Bool) (w : World) (hr0 : Kd.C k35 w A0 l0.length l0) (hc0 : l0.length ≤ c0) (h : repriseref7_place.f l0 a1 a2 a3 = some r) :
 Calls Try.prog 54 #[.slice A0 l0.length c0,.int .i64 a1,.int .i64 a2,.int .i64 a3] w fun e w'=>e = .returned (.bool r)∧Drawn0 w w':=by
 have HR0:=zA hr0;have HC0:=zA hc0;clear hr0 hc0;have H : ((repriseref7_grid.f l0 a1).bind fun bt295=>(if bt295.2 = true then (if a2 ≥ 0 then (if a2 < bt295.1 then (if a3 ≥ 0 then (some (decide (a3 ≤ a1))) else (some false)) else (some false)) else (some false)) else (some false))) = some r:=h;clear h;replace H:=Option.bind_eq_some_iff.mp H;obtain ⟨⟨t295,t296⟩,A50,H⟩:=H;replace H : (if t296 = true then (if a2 ≥ 0 then (if a2 < t295 then (if a3 ≥ 0 then (some (decide (a3 ≤ a1))) else (some false)) else (some false)) else (some false)) else (some false)) = some r:=H;have A5:=zA A50;clear A50;by_cases c6 : t296 = true
 ·subst c6;have H1 : (if a2 ≥ 0 then (if a2 < t295 then (if a3 ≥ 0 then (some (decide (a3 ≤ a1))) else (some false)) else (some false)) else (some false)) = some r:=by rw [if_pos rfl] at H;exact H
  clear H;have H:=H1;clear H1;by_cases c7 : a2 ≥ 0
  ·rw [if_pos c7] at H;have c7b0 : decide (0 ≤ a2) = true:=zC c7;clear c7;by_cases c8 : a2 < t295
   ·rw [if_pos c8] at H;have c8b0 : decide (a2 < t295) = true:=zC c8;clear c8;by_cases c9 : a3 ≥ 0
    ·rw [if_pos c9] at H;have c9b0 : decide (0 ≤ a3) = true:=zC c9;clear c9;obtain rfl:=zY H;go_enter Try.func54,Try.ntmps54
     go_wp2_with (((with_reducible refine zI (f:=52) rfl ?_);refine goesL_ (some 14) rfl rfl Try.func52 (by kernel_rfl) rfl #[.slice A0 l0.length c0,.int .i64 a1] rfl (by (try simp only [zS,zT,zU]);rfl) ?_;(with_reducible refine (repriseref7_grid.calls _ _ l0 a1 t295 true _ ?side1 ?side2 A5.out).mono ?_);(case side1=>exact HR0.out);(case side2=>exact HC0.out);rintro e w' ⟨rfl,⟨nd,rfl⟩⟩;refine ⟨_,rfl,?_⟩));go_ret;exact ⟨by rfl,by repeat (first|exact Drawn0.refl _|apply Drawn0.step)⟩
    ·rw [if_neg c9] at H;have c9b0 : decide (0 ≤ a3) = false:=zD c9;clear c9;obtain rfl:=zY H;go_enter Try.func54,Try.ntmps54
     go_wp2_with (((with_reducible refine zI (f:=52) rfl ?_);refine goesL_ (some 14) rfl rfl Try.func52 (by kernel_rfl) rfl #[.slice A0 l0.length c0,.int .i64 a1] rfl (by (try simp only [zS,zT,zU]);rfl) ?_;(with_reducible refine (repriseref7_grid.calls _ _ l0 a1 t295 true _ ?side1 ?side2 A5.out).mono ?_);(case side1=>exact HR0.out);(case side2=>exact HC0.out);rintro e w' ⟨rfl,⟨nd,rfl⟩⟩;refine ⟨_,rfl,?_⟩));go_ret;exact ⟨by rfl,by repeat (first|exact Drawn0.refl _|apply Drawn0.step)⟩
   ·rw [if_neg c8] at H;have c8b0 : decide (a2 < t295) = false:=zD c8;clear c8;obtain rfl:=zY H;go_enter Try.func54,Try.ntmps54
    go_wp2_with (((with_reducible refine zI (f:=52) rfl ?_);refine goesL_ (some 14) rfl rfl Try.func52 (by kernel_rfl) rfl #[.slice A0 l0.length c0,.int .i64 a1] rfl (by (try simp only [zS,zT,zU]);rfl) ?_;(with_reducible refine (repriseref7_grid.calls _ _ l0 a1 t295 true _ ?side1 ?side2 A5.out).mono ?_);(case side1=>exact HR0.out);(case side2=>exact HC0.out);rintro e w' ⟨rfl,⟨nd,rfl⟩⟩;refine ⟨_,rfl,?_⟩));go_ret;exact ⟨by rfl,by repeat (first|exact Drawn0.refl _|apply Drawn0.step)⟩
  ·rw [if_neg c7] at H;have c7b0 : decide (0 ≤ a2) = false:=zD c7;clear c7;obtain rfl:=zY H;go_enter Try.func54,Try.ntmps54
   go_wp2_with (((with_reducible refine zI (f:=52) rfl ?_);refine goesL_ (some 14) rfl rfl Try.func52 (by kernel_rfl) rfl #[.slice A0 l0.length c0,.int .i64 a1] rfl (by (try simp only [zS,zT,zU]);rfl) ?_;(with_reducible refine (repriseref7_grid.calls _ _ l0 a1 t295 true _ ?side1 ?side2 A5.out).mono ?_);(case side1=>exact HR0.out);(case side2=>exact HC0.out);rintro e w' ⟨rfl,⟨nd,rfl⟩⟩;refine ⟨_,rfl,?_⟩));go_ret;exact ⟨by rfl,by repeat (first|exact Drawn0.refl _|apply Drawn0.step)⟩
 ·replace c6:=Bool.eq_false_iff.mpr c6;subst c6;have H1 : (some false) = some r:=by rw [if_neg (show ¬ (false = true) by decide)] at H;exact H
  clear H;have H:=H1;clear H1;obtain rfl:=zY H;go_enter Try.func54,Try.ntmps54
  go_wp2_with (((with_reducible refine zI (f:=52) rfl ?_);refine goesL_ (some 14) rfl rfl Try.func52 (by kernel_rfl) rfl #[.slice A0 l0.length c0,.int .i64 a1] rfl (by (try simp only [zS,zT,zU]);rfl) ?_;(with_reducible refine (repriseref7_grid.calls _ _ l0 a1 t295 false _ ?side1 ?side2 A5.out).mono ?_);(case side1=>exact HR0.out);(case side2=>exact HC0.out);rintro e w' ⟨rfl,⟨nd,rfl⟩⟩;refine ⟨_,rfl,?_⟩));go_ret;exact ⟨by rfl,by repeat (first|exact Drawn0.refl _|apply Drawn0.step)⟩
end Go.Proofs.Ytooageeehallbaa.QRunsCut
