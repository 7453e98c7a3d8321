/- Parts of the claim's proof, merged; no condition beyond what each theorem states. -/
import Derived.Test.YtooageeehallbaaG10
import Derived.Test.YtooageeehallbaaG11
import Derived.Laws.Cover3
import Derived.Laws.ResultCell
namespace Go.Proofs.Ytooageeehallbaa.Scr
open Go.RowKit Go.Proofs.YtooageeehallbaaW.PrintWords Go.Proofs.YtooageeehallbaaW.PrintLast Go.Proofs.YtooageeehallbaaW.PrintMore Go.Proofs.Ytooageeehallbaa.QRunsCut Go.Proofs.Ytooageeehallbaa.Runs
attribute [local go_sem] max2_int min2_int max_two min_two max_three min_three max_four min_four   -- for this text's walks alone
set_option linter.unusedVariables false
set_option linter.unusedSimpArgs false
theorem Row.at' {α : Type} {d : Kd α} {v : Sl} {P : List α → Prop} {W : World} {ok : Nat → Prop} {n : Nat} (h : Row d v P W ok) (hn : v.n = n) : Row d ⟨v.A,n,v.c⟩ P W ok:=by
 subst hn;exact h
theorem bsn_if {P : Program} {ops : Array Oper} {a : Act} {o : Oper} {W : World} {Q : Exit → Act → World → Prop} {K : Act → World → Prop} {m : Nat} (hw : Region.wanted o (yielded ops a.tmps) = true) {N : Option Tmp} (hd : o.dst = N) {inner : Array Value} {e : TypeId} (hrun : (execOp a.eval o).run P W = .ok (.value (.slice (some ⟨W.heap.size,0,none⟩) m m)) (W.alloc (.cells inner e)))
 (h : ∀ g w1,W.heap.size = g → W.grownBy w1 none → w1.heap[g]? = some (.cells inner e (0,0)) → K (a.put N (.slice (some ⟨g,0,none⟩) m m)) w1) : if Region.wanted o (yielded ops a.tmps) = true then Oper.wp P o a W K Q else K (a.put N undef) W:=by
 rw [if_pos hw];unfold Oper.wp;rw [hrun];subst hd;exact h W.heap.size _ rfl (grown_alloc W _) (heap_alloc_new W _)
theorem rem_lt' {x : Int} {R : Nat} (h : 0 ≤ x) (hR : 1 ≤ R) : ∃ t : Nat,Int.tmod x (R : Int) = (t : Int)∧t < R:=by
 have h1:=law_mod h (show 0 < R by omega);exact ⟨(Int.tmod x (R : Int)).toNat,by omega,by omega⟩
set_option maxHeartbeats 4000000 in
set_option maxRecDepth 100000 in
theorem gridHalves_walk (bl : Sl) (k y x n : Int) (hk : 0 ≤ k∧k ≤ 255) (hy : 0 ≤ y∧y ≤ 255) (hx : 0 ≤ x∧x ≤ 255) (hn : 0 ≤ n∧n ≤ 255) (w : World) (hl : Row (Kd.int .u8) bl Bytes8 w (fun k=>k < w.heap.size)) :
 Calls Try.prog 8 #[.slice bl.A bl.n bl.c,.int .u8 k,.int .u8 y,.int .u8 x,.int .u8 n] w fun e w'=>e = .returned (.bool true)∧Below w.heap.size w w':=by
 have HB:=zA (zE w.heap.size w);have hyy:=zA hy;have hxx:=zA hx;have hnn:=zA hn;clear hy hx hn;go_enter Try.func8,Try.ntmps8
 rcases Nat.lt_or_ge 30 bl.n with hbig|hsmall
 ·have e1 : decide (30 < (bl.n : Int)) = true:=zC (by omega);go_wp2_with (first|((with_reducible refine zG (N:=17) rfl ?_);refine goesL_ (some 17) rfl rfl Try.func10 (by kernel_rfl) rfl _ rfl rfl ?_;(try simp only [zS,zT,zU]);refine Calls.mono (known8_call _) ?_;rintro e w17 ⟨rfl,hb⟩;(try replace HL:=zA (mvRow.call HL.out hb));(try replace HI:=zA (mvInv.call HI.out hb));(try replace HC:=zA (mvRow.call HC.out hb));(try replace HV:=zA (mvRow.call HV.out hb));replace HB:=zA (zJ HB.out HB.out.size hb);clear hb;refine ⟨_,rfl,?_⟩)|((with_reducible refine zG (N:=11) rfl ?_);refine bx_alloc (t:=31) (n:=w.heap.size) (cs:=Scr.zero.cs) rfl rfl rfl Scr.infoz HB.out.size ?_;intro g11 w11 hN hg bx;replace HB:=zA (zL HB.out HB.out.size hg);(try replace HL:=zA (mvRow.fresh HL.out hN hg));(try replace HI:=zA (mvInv.fresh HI.out hN hg));(try replace HC:=zA (mvRow.fresh HC.out hN hg));(try replace HV:=zA (mvRow.fresh HV.out hN hg));have BX11:=zA bx;clear hN hg bx)|((with_reducible refine zH (t:=31) (p:=11) rfl ?_);refine bx_store BX11.out rfl rfl rfl rfl (cs':=Scr.cs _) rfl (Scr.sizes _) rfl (Scr.all _) ?_;intro w_26 hg bx;replace HB:=zA (zK HB.out BX11.out hg);(try replace HL:=zA (mvRow.grown HL.out hg (by simp only [zW,true_or,or_true])));(try replace HI:=zA (mvInv.grown HI.out hg (by simp only [zW,true_or,or_true])));(try replace HC:=zA (mvRow.grown HC.out hg (by simp only [zW,true_or,or_true])));(try replace HV:=zA (mvRow.grown HV.out hg (by simp only [zW,true_or,or_true])));clear BX11;have BX11:=zA bx;clear bx hg)|((with_reducible refine zG (N:=30) rfl ?_);refine bx_get BX11.out rfl rfl rfl rfl Try.underlying3 rfl (Scr.get_rows _) ?_)|((with_reducible refine zG (N:=35) rfl ?_);refine bx_get BX11.out rfl rfl rfl rfl Try.underlying3 rfl (Scr.get_cols _) ?_)|((with_reducible refine zG (N:=42) rfl ?_);refine bx_get BX11.out rfl rfl rfl rfl Try.underlying24 rfl (Scr.get_c _) ?_)|((with_reducible refine zG (N:=44) rfl ?_);refine bx_get BX11.out rfl rfl rfl rfl Try.underlying3 rfl (Scr.get_cols _) ?_)|((with_reducible refine zG (N:=50) rfl ?_);refine bx_get BX11.out rfl rfl rfl rfl Try.underlying24 rfl (Scr.get_c _) ?_)|((with_reducible refine zG (N:=52) rfl ?_);refine bx_get BX11.out rfl rfl rfl rfl Try.underlying3 rfl (Scr.get_cols _) ?_)|((with_reducible refine zG (N:=58) rfl ?_);refine bx_get BX11.out rfl rfl rfl rfl Try.underlying24 rfl (Scr.get_c _) ?_)|((with_reducible refine zG (N:=60) rfl ?_);refine bx_get BX11.out rfl rfl rfl rfl Try.underlying3 rfl (Scr.get_cols _) ?_)|((with_reducible refine zG (N:=76) rfl ?_);refine bx_get BX11.out rfl rfl rfl rfl Try.underlying24 rfl (Scr.get_c _) ?_)|((with_reducible refine zG (N:=26) rfl ?_);refine goesL_ (some 26) rfl rfl Try.func11 (by kernel_rfl) rfl _ rfl rfl ?_;(try simp only [zS,zT,zU]);have e_:=seat_inv _ _ hk1.out hk2.out bl _ HL.out;(try dsimp only at e_);refine Calls.mono e_ ?_;clear e_;rintro e w26 ⟨s_,rfl,NI0,hb⟩;have HI:=zA (mvInv.back (ok:=fun k=>k < w.heap.size) (n:=w.heap.size) (gs:=[]) NI0 HB.out.size (by simp));clear NI0;clear HL;obtain ⟨lc,hG,hcn,hcc,HC0⟩:=Row.pin (show Row k35 s_.c (Grid _ _) _ _ from HI.out.c);have HC:=zA HC0;clear HC0;have hGr:=zA hG;clear hG;have hrw:=HI.out.hrows;have hcl:=HI.out.hcols;replace hcn:=zA hcn;replace hcc:=zA hcc;(try replace HL:=zA (mvRow.call HL.out hb));(try replace HI:=zA (mvInv.call HI.out hb));(try replace HC:=zA (mvRow.call HC.out hb));(try replace HV:=zA (mvRow.call HV.out hb));replace HB:=zA (zJ HB.out HB.out.size hb);clear hb;refine ⟨_,rfl,?_⟩));go_ret;exact ⟨rfl,HB.out⟩
 ·have e1 : decide (30 < (bl.n : Int)) = false:=zD (by omega);have HL:=zA (mvRow.enter (law_row hl hsmall) (n:=w.heap.size) rfl);have hk1:=zA hk;have hk2:=zA (show 0 ≤ k.tdiv 6 % 256∧k.tdiv 6 % 256 ≤ 255 by omega);clear hl hk;go_upto_region 6 with (first|((with_reducible refine zG (N:=17) rfl ?_);refine goesL_ (some 17) rfl rfl Try.func10 (by kernel_rfl) rfl _ rfl rfl ?_;(try simp only [zS,zT,zU]);refine Calls.mono (known8_call _) ?_;rintro e w17 ⟨rfl,hb⟩;(try replace HL:=zA (mvRow.call HL.out hb));(try replace HI:=zA (mvInv.call HI.out hb));(try replace HC:=zA (mvRow.call HC.out hb));(try replace HV:=zA (mvRow.call HV.out hb));replace HB:=zA (zJ HB.out HB.out.size hb);clear hb;refine ⟨_,rfl,?_⟩)|((with_reducible refine zG (N:=11) rfl ?_);refine bx_alloc (t:=31) (n:=w.heap.size) (cs:=Scr.zero.cs) rfl rfl rfl Scr.infoz HB.out.size ?_;intro g11 w11 hN hg bx;replace HB:=zA (zL HB.out HB.out.size hg);(try replace HL:=zA (mvRow.fresh HL.out hN hg));(try replace HI:=zA (mvInv.fresh HI.out hN hg));(try replace HC:=zA (mvRow.fresh HC.out hN hg));(try replace HV:=zA (mvRow.fresh HV.out hN hg));have BX11:=zA bx;clear hN hg bx)|((with_reducible refine zH (t:=31) (p:=11) rfl ?_);refine bx_store BX11.out rfl rfl rfl rfl (cs':=Scr.cs _) rfl (Scr.sizes _) rfl (Scr.all _) ?_;intro w_26 hg bx;replace HB:=zA (zK HB.out BX11.out hg);(try replace HL:=zA (mvRow.grown HL.out hg (by simp only [zW,true_or,or_true])));(try replace HI:=zA (mvInv.grown HI.out hg (by simp only [zW,true_or,or_true])));(try replace HC:=zA (mvRow.grown HC.out hg (by simp only [zW,true_or,or_true])));(try replace HV:=zA (mvRow.grown HV.out hg (by simp only [zW,true_or,or_true])));clear BX11;have BX11:=zA bx;clear bx hg)|((with_reducible refine zG (N:=30) rfl ?_);refine bx_get BX11.out rfl rfl rfl rfl Try.underlying3 rfl (Scr.get_rows _) ?_)|((with_reducible refine zG (N:=35) rfl ?_);refine bx_get BX11.out rfl rfl rfl rfl Try.underlying3 rfl (Scr.get_cols _) ?_)|((with_reducible refine zG (N:=42) rfl ?_);refine bx_get BX11.out rfl rfl rfl rfl Try.underlying24 rfl (Scr.get_c _) ?_)|((with_reducible refine zG (N:=44) rfl ?_);refine bx_get BX11.out rfl rfl rfl rfl Try.underlying3 rfl (Scr.get_cols _) ?_)|((with_reducible refine zG (N:=50) rfl ?_);refine bx_get BX11.out rfl rfl rfl rfl Try.underlying24 rfl (Scr.get_c _) ?_)|((with_reducible refine zG (N:=52) rfl ?_);refine bx_get BX11.out rfl rfl rfl rfl Try.underlying3 rfl (Scr.get_cols _) ?_)|((with_reducible refine zG (N:=58) rfl ?_);refine bx_get BX11.out rfl rfl rfl rfl Try.underlying24 rfl (Scr.get_c _) ?_)|((with_reducible refine zG (N:=60) rfl ?_);refine bx_get BX11.out rfl rfl rfl rfl Try.underlying3 rfl (Scr.get_cols _) ?_)|((with_reducible refine zG (N:=76) rfl ?_);refine bx_get BX11.out rfl rfl rfl rfl Try.underlying24 rfl (Scr.get_c _) ?_)|((with_reducible refine zG (N:=26) rfl ?_);refine goesL_ (some 26) rfl rfl Try.func11 (by kernel_rfl) rfl _ rfl rfl ?_;(try simp only [zS,zT,zU]);have e_:=seat_inv _ _ hk1.out hk2.out bl _ HL.out;(try dsimp only at e_);refine Calls.mono e_ ?_;clear e_;rintro e w26 ⟨s_,rfl,NI0,hb⟩;have HI:=zA (mvInv.back (ok:=fun k=>k < w.heap.size) (n:=w.heap.size) (gs:=[]) NI0 HB.out.size (by simp));clear NI0;clear HL;obtain ⟨lc,hG,hcn,hcc,HC0⟩:=Row.pin (show Row k35 s_.c (Grid _ _) _ _ from HI.out.c);have HC:=zA HC0;clear HC0;have hGr:=zA hG;clear hG;have hrw:=HI.out.hrows;have hcl:=HI.out.hcols;replace hcn:=zA hcn;replace hcc:=zA hcc;(try replace HL:=zA (mvRow.call HL.out hb));(try replace HI:=zA (mvInv.call HI.out hb));(try replace HC:=zA (mvRow.call HC.out hb));(try replace HV:=zA (mvRow.call HV.out hb));replace HB:=zA (zJ HB.out HB.out.size hb);clear hb;refine ⟨_,rfl,?_⟩))
  clear e1;obtain ⟨R,hRe,hR1⟩ : ∃ R : Nat,k % 6 + 1 = (R : Int)∧1 ≤ R∧R ≤ 6:=⟨(k % 6 + 1).toNat,by have:=hk1.out;omega,by have:=hk1.out;omega,by have:=hk1.out;omega⟩;obtain ⟨C,hCe,hC1⟩ : ∃ C : Nat,k.tdiv 6 % 256 % 9 + 1 = (C : Int)∧1 ≤ C∧C ≤ 9:=⟨(k.tdiv 6 % 256 % 9 + 1).toNat,by have:=hk2.out;omega,by have:=hk2.out;omega,by have:=hk2.out;omega⟩;rw [hRe] at hrw;rw [hCe] at hcl;rw [hRe,hCe] at hGr HI;have hlen : lc.length = R * C:=by have h1:=hGr.out.len;rw [← Int.natCast_mul] at h1;omega
  clear hRe hCe hk1 hk2;obtain ⟨C1,hC1e⟩ : ∃ C1,C1 = C + 1:=⟨_,rfl⟩;obtain ⟨t0,ht0,ht1⟩:=rem_lt' hyy.out.1 hR1.1;obtain ⟨X,hX0,hX1⟩:=rem_lt' hxx.out.1 (show 1 ≤ C1 by omega);obtain ⟨N,hNe,hN7⟩ : ∃ N : Nat,n.tmod 6 = (N : Int)∧N ≤ 5:=by
   have h1:=law_mod (b:=6) hnn.out.1 (by decide);exact ⟨(n.tmod 6).toNat,by have:=h1.1;have e8 : ((6 : Nat) : Int) = 6:=rfl;rw [e8] at this;omega,by have:=h1.2;have e8 : ((6 : Nat) : Int) = 6:=rfl;rw [e8] at this;omega⟩
  obtain ⟨XN,hXN⟩ : ∃ XN,XN = X + N:=⟨_,rfl⟩;have z1 : 0 ≤ y∧y ≤ 1000000000:=by have:=hyy.out;omega
  have z2 : 0 ≤ x∧x ≤ 1000000000:=by have:=hxx.out;omega
  have z3 : 0 ≤ (N : Int)∧(N : Int) ≤ 1000000000:=by omega
  have z4 : (X : Int) + (N : Int) = (XN : Int):=by omega
  have z5 : 0 ≤ (XN : Int)∧(XN : Int) ≤ 1000000000:=by omega
  have z6 : (C : Int) + 1 = (C1 : Int):=by omega
  have z7 : 0 ≤ (C1 : Int)∧(C1 : Int) ≤ 1000000000:=by omega
  have hXC : X ≤ C:=by omega
  have hRR : 1 ≤ R∧R ≤ 1000:=by omega
  have hCC : 1 ≤ C∧C ≤ 1000:=by omega
  have hNN : N ≤ 1000:=by omega
  have hXN6 : XN ≤ 1000000:=by omega
  have hRz : ((R : Int) = 0) = False:=eq_false (by omega);have hRz' : (R = 0) = False:=eq_false (by omega);have hCz : ((C1 : Int) = 0) = False:=eq_false (by omega);have hCz' : (C1 = 0) = False:=eq_false (by omega);have w1 : wrap64 y = y:=wrap64_nat z1;have w2 : wrap64 x = x:=wrap64_nat z2;have w3 : wrap64 (N : Int) = (N : Int):=wrap64_nat z3;have w5 : wrap64 ((X : Int) + (N : Int)) = (XN : Int):=by rw [z4,wrap64_nat z5]
  have w4 : wrap64 ((C : Int) + 1) = (C1 : Int):=by rw [z6,wrap64_nat z7]
  clear z1 z2 z3 z4 z5 z6 z7 hXN hC1e;have hb : Below w_26.heap.size w_26 w_26.drew:=(zE _ _).drew;replace BX11:=zA (zM BX11.out hb);(try replace HL:=zA (mvRow.call HL.out hb));(try replace HI:=zA (mvInv.call HI.out hb));(try replace HC:=zA (mvRow.call HC.out hb));(try replace HV:=zA (mvRow.call HV.out hb));replace HB:=zA (zJ HB.out HB.out.size hb);clear hb;refine start_ (n:=17) (S:=fun w'=>w'.heap[g11]? = some (.cells s_.cs 31 (0,0))) (ds:=[]) #[false,false,false,false,false,false,false,false,false,false,false,false,false,false,false,false,false] (by kernel_rfl) rfl rfl BX11.out.bx (fun hHeld=>?_);generalize World.drew w_26 = wD at HB BX11 HI HC hHeld ⊢;refine pure_ (i:=0) (N:=(some 27)) (v:=?_) (a':=?_) #[true,false,false,false,false,false,false,false,false,false,false,false,false,false,false,false,false] rfl rfl (by kernel_rfl) (fun _ _ _ h=>h) (Or.inl ⟨by rfl,?_⟩) ?_ ?_;rotate_left
  ·intro w';go_simp;(with_reducible rfl)
  rotate_left
  ·simp only [Act.put,zP,zQ,zR,i64_w,i32_w];rfl
  refine pure_ (i:=1) (N:=(some 28)) (v:=?_) (a':=?_) #[true,true,false,false,false,false,false,false,false,false,false,false,false,false,false,false,false] rfl rfl (by kernel_rfl) (fun _ _ _ h=>h) (Or.inl ⟨by rfl,?_⟩) ?_ ?_;rotate_left
  ·intro w';go_simp;(with_reducible rfl)
  rotate_left
  ·simp only [Act.put,zP,zQ,zR,i64_w,i32_w];rfl
  refine pure_ (i:=2) (N:=(some 29)) (v:=?_) (a':=?_) #[true,true,true,false,false,false,false,false,false,false,false,false,false,false,false,false,false] rfl rfl (by kernel_rfl) (fun _ _ _ h=>h) (Or.inl ⟨by rfl,?_⟩) ?_ ?_;rotate_left
  ·intro w';go_simp;(with_reducible rfl)
  rotate_left
  ·simp only [Act.put,zP,zQ,zR,i64_w,i32_w];rfl
  refine take_ (i:=3) (N:=(some 30)) (v:=(.int .i64 s_.rows)) (a':=?_) #[true,true,true,true,false,false,false,false,false,false,false,false,false,false,false,false,false] rfl rfl (by kernel_rfl) (fun _ _ _ h=>h) (Or.inl ⟨by rfl,?_⟩) hHeld ?_ ?_
  ·rintro w' hs0_
   exact bx_yields hs0_ rfl rfl Try.underlying3 rfl (Scr.get_rows s_)
  rotate_left
  ·simp only [Act.put,zP,zQ,zR,i64_w,i32_w];rfl
  refine pure_ (i:=4) (N:=(some 31)) (v:=?_) (a':=?_) #[true,true,true,true,true,false,false,false,false,false,false,false,false,false,false,false,false] rfl rfl (by kernel_rfl) (fun _ _ _ h=>h) (Or.inl ⟨by rfl,?_⟩) ?_ ?_;rotate_left
  ·intro w';go_simp;(with_reducible rfl)
  rotate_left
  ·simp only [Act.put,zP,zQ,zR,i64_w,i32_w];rfl
  refine pure_ (i:=5) (N:=(some 32)) (v:=?_) (a':=?_) #[true,true,true,true,true,true,false,false,false,false,false,false,false,false,false,false,false] rfl rfl (by kernel_rfl) (fun _ _ _ h=>h) (Or.inl ⟨by rfl,?_⟩) ?_ ?_;rotate_left
  ·intro w';go_simp;(with_reducible rfl)
  rotate_left
  ·simp only [Act.put,zP,zQ,zR,i64_w,i32_w];rfl
  refine pure_ (i:=6) (N:=(some 33)) (v:=?_) (a':=?_) #[true,true,true,true,true,true,true,false,false,false,false,false,false,false,false,false,false] rfl rfl (by kernel_rfl) (fun _ _ _ h=>h) (Or.inl ⟨by rfl,?_⟩) ?_ ?_;rotate_left
  ·intro w';go_simp;(with_reducible rfl)
  rotate_left
  ·simp only [Act.put,zP,zQ,zR,i64_w,i32_w];rfl
  refine pure_ (i:=7) (N:=(some 34)) (v:=?_) (a':=?_) #[true,true,true,true,true,true,true,true,false,false,false,false,false,false,false,false,false] rfl rfl (by kernel_rfl) (fun _ _ _ h=>h) (Or.inl ⟨by rfl,?_⟩) ?_ ?_;rotate_left
  ·intro w';go_simp;(with_reducible rfl)
  rotate_left
  ·simp only [Act.put,zP,zQ,zR,i64_w,i32_w];rfl
  refine take_ (i:=8) (N:=(some 35)) (v:=(.int .i64 s_.cols)) (a':=?_) #[true,true,true,true,true,true,true,true,true,false,false,false,false,false,false,false,false] rfl rfl (by kernel_rfl) (fun _ _ _ h=>h) (Or.inl ⟨by rfl,?_⟩) hHeld ?_ ?_
  ·rintro w' hs0_
   exact bx_yields hs0_ rfl rfl Try.underlying3 rfl (Scr.get_cols s_)
  rotate_left
  ·simp only [Act.put,zP,zQ,zR,i64_w,i32_w];rfl
  refine pure_ (i:=9) (N:=(some 36)) (v:=?_) (a':=?_) #[true,true,true,true,true,true,true,true,true,true,false,false,false,false,false,false,false] rfl rfl (by kernel_rfl) (fun _ _ _ h=>h) (Or.inl ⟨by rfl,?_⟩) ?_ ?_;rotate_left
  ·intro w';go_simp;(with_reducible rfl)
  rotate_left
  ·simp only [Act.put,zP,zQ,zR,i64_w,i32_w];rfl
  refine pure_ (i:=10) (N:=(some 37)) (v:=?_) (a':=?_) #[true,true,true,true,true,true,true,true,true,true,true,false,false,false,false,false,false] rfl rfl (by kernel_rfl) (fun _ _ _ h=>h) (Or.inl ⟨by rfl,?_⟩) ?_ ?_;rotate_left
  ·intro w';go_simp;(with_reducible rfl)
  rotate_left
  ·simp only [Act.put,zP,zQ,zR,i64_w,i32_w];rfl
  refine pure_ (i:=11) (N:=(some 38)) (v:=?_) (a':=?_) #[true,true,true,true,true,true,true,true,true,true,true,true,false,false,false,false,false] rfl rfl (by kernel_rfl) (fun _ _ _ h=>h) (Or.inl ⟨by rfl,?_⟩) ?_ ?_;rotate_left
  ·intro w';go_simp;(with_reducible rfl)
  rotate_left
  ·simp only [Act.put,zP,zQ,zR,i64_w,i32_w];rfl
  refine pure_ (i:=12) (N:=(some 39)) (v:=?_) (a':=?_) #[true,true,true,true,true,true,true,true,true,true,true,true,true,false,false,false,false] rfl rfl (by kernel_rfl) (fun _ _ _ h=>h) (Or.inl ⟨by rfl,?_⟩) ?_ ?_;rotate_left
  ·intro w';go_simp;(with_reducible rfl)
  rotate_left
  ·simp only [Act.put,zP,zQ,zR,i64_w,i32_w];rfl
  refine pure_ (i:=13) (N:=(some 40)) (v:=?_) (a':=?_) #[true,true,true,true,true,true,true,true,true,true,true,true,true,true,false,false,false] rfl rfl (by kernel_rfl) (fun _ _ _ h=>h) (Or.inl ⟨by rfl,?_⟩) ?_ ?_;rotate_left
  ·intro w';go_simp;(with_reducible rfl)
  rotate_left
  ·simp only [Act.put,zP,zQ,zR,i64_w,i32_w];rfl
  refine pure_ (i:=14) (N:=(some 12)) (v:=?_) (a':=?_) #[true,true,true,true,true,true,true,true,true,true,true,true,true,true,true,false,false] rfl rfl (by kernel_rfl) (fun _ _ _ h=>h) (Or.inl ⟨by rfl,?_⟩) ?_ ?_;rotate_left
  ·intro w';go_simp;(with_reducible rfl)
  rotate_left
  ·simp only [Act.put,zP,zQ,zR,i64_w,i32_w];rfl
  refine pure_ (i:=15) (N:=(some 13)) (v:=?_) (a':=?_) #[true,true,true,true,true,true,true,true,true,true,true,true,true,true,true,true,false] rfl rfl (by kernel_rfl) (fun _ _ _ h=>h) (Or.inl ⟨by rfl,?_⟩) ?_ ?_;rotate_left
  ·intro w';go_simp;(with_reducible rfl)
  rotate_left
  ·simp only [Act.put,zP,zQ,zR,i64_w,i32_w];rfl
  refine pure_ (i:=16) (N:=(some 14)) (v:=?_) (a':=?_) #[true,true,true,true,true,true,true,true,true,true,true,true,true,true,true,true,true] rfl rfl (by kernel_rfl) (fun _ _ _ h=>h) (Or.inl ⟨by rfl,?_⟩) ?_ ?_;rotate_left
  ·intro w';go_simp;(with_reducible rfl)
  rotate_left
  ·simp only [Act.put,zP,zQ,zR,i64_w,i32_w];rfl
  refine done_ (by kernel_rfl) ?_;clear HI w1 w2 w3 w4;go_upto_region 7 with (fail)
  have hb : Below wD.heap.size wD wD.drew:=(zE _ _).drew;replace BX11:=zA (zM BX11.out hb);(try replace HL:=zA (mvRow.call HL.out hb));(try replace HI:=zA (mvInv.call HI.out hb));(try replace HC:=zA (mvRow.call HC.out hb));(try replace HV:=zA (mvRow.call HV.out hb));replace HB:=zA (zJ HB.out HB.out.size hb);clear hb;refine start_ (n:=29) (S:=fun w'=>w'.heap[g11]? = some (.cells s_.cs 31 (0,0))) (ds:=[]) #[false,false,false,false,false,false,false,false,false,false,false,false,false,false,false,false,false,false,false,false,false,false,false,false,false,false,false,false,false] (by kernel_rfl) rfl rfl BX11.out.bx (fun hHeld=>?_);generalize World.drew wD = wE at HB BX11 HC hHeld ⊢;refine pure_ (i:=0) (N:=(some 41)) (v:=?_) (a':=?_) #[true,false,false,false,false,false,false,false,false,false,false,false,false,false,false,false,false,false,false,false,false,false,false,false,false,false,false,false,false] rfl rfl (by kernel_rfl) (fun _ _ _ h=>h) (Or.inl ⟨by rfl,?_⟩) ?_ ?_;rotate_left
  ·intro w';go_simp;(with_reducible rfl)
  rotate_left
  ·simp only [Act.put,zP,zQ,zR,i64_w,i32_w];rfl
  refine take_ (i:=1) (N:=(some 42)) (v:=(.slice s_.c.A s_.c.n s_.c.c)) (a':=?_) #[true,true,false,false,false,false,false,false,false,false,false,false,false,false,false,false,false,false,false,false,false,false,false,false,false,false,false,false,false] rfl rfl (by kernel_rfl) (fun _ _ _ h=>h) (Or.inl ⟨by rfl,?_⟩) hHeld ?_ ?_
  ·rintro w' hs0_
   exact bx_yields hs0_ rfl rfl Try.underlying24 rfl (Scr.get_c s_)
  rotate_left
  ·simp only [Act.put,zP,zQ,zR,i64_w,i32_w];rfl
  refine pure_ (i:=2) (N:=(some 43)) (v:=?_) (a':=?_) #[true,true,true,false,false,false,false,false,false,false,false,false,false,false,false,false,false,false,false,false,false,false,false,false,false,false,false,false,false] rfl rfl (by kernel_rfl) (fun _ _ _ h=>h) (Or.inl ⟨by rfl,?_⟩) ?_ ?_;rotate_left
  ·intro w';go_simp;(with_reducible rfl)
  rotate_left
  ·simp only [Act.put,zP,zQ,zR,i64_w,i32_w];rfl
  refine take_ (i:=3) (N:=(some 44)) (v:=(.int .i64 s_.cols)) (a':=?_) #[true,true,true,true,false,false,false,false,false,false,false,false,false,false,false,false,false,false,false,false,false,false,false,false,false,false,false,false,false] rfl rfl (by kernel_rfl) (fun _ _ _ h=>h) (Or.inl ⟨by rfl,?_⟩) hHeld ?_ ?_
  ·rintro w' hs0_
   exact bx_yields hs0_ rfl rfl Try.underlying3 rfl (Scr.get_cols s_)
  rotate_left
  ·simp only [Act.put,zP,zQ,zR,i64_w,i32_w];rfl
  refine pure_ (i:=4) (N:=(some 45)) (v:=?_) (a':=?_) #[true,true,true,true,true,false,false,false,false,false,false,false,false,false,false,false,false,false,false,false,false,false,false,false,false,false,false,false,false] rfl rfl (by kernel_rfl) (fun _ _ _ h=>h) (Or.inl ⟨by rfl,?_⟩) ?_ ?_;rotate_left
  ·intro w';go_simp;(with_reducible rfl)
  rotate_left
  ·simp only [Act.put,zP,zQ,zR,i64_w,i32_w];rfl
  refine pure_ (i:=5) (N:=(some 46)) (v:=?_) (a':=?_) #[true,true,true,true,true,true,false,false,false,false,false,false,false,false,false,false,false,false,false,false,false,false,false,false,false,false,false,false,false] rfl rfl (by kernel_rfl) (fun _ _ _ h=>h) (Or.inl ⟨by rfl,?_⟩) ?_ ?_;rotate_left
  ·intro w';go_simp;(with_reducible rfl)
  rotate_left
  ·simp only [Act.put,zP,zQ,zR,i64_w,i32_w];rfl
  refine pure_ (i:=6) (N:=(some 47)) (v:=?_) (a':=?_) #[true,true,true,true,true,true,true,false,false,false,false,false,false,false,false,false,false,false,false,false,false,false,false,false,false,false,false,false,false] rfl rfl (by kernel_rfl) (fun _ _ _ h=>h) (Or.inl ⟨by rfl,?_⟩) ?_ ?_;rotate_left
  ·intro w';go_simp;(with_reducible rfl)
  rotate_left
  ·simp only [Act.put,zP,zQ,zR,i64_w,i32_w];rfl
  refine pure_ (i:=8) (N:=(some 49)) (v:=?_) (a':=?_) #[true,true,true,true,true,true,true,false,true,false,false,false,false,false,false,false,false,false,false,false,false,false,false,false,false,false,false,false,false] rfl rfl (by kernel_rfl) (fun _ _ _ h=>h) (Or.inl ⟨by rfl,?_⟩) ?_ ?_;rotate_left
  ·intro w';go_simp;(with_reducible rfl)
  rotate_left
  ·simp only [Act.put,zP,zQ,zR,i64_w,i32_w];rfl
  refine take_ (i:=9) (N:=(some 50)) (v:=(.slice s_.c.A s_.c.n s_.c.c)) (a':=?_) #[true,true,true,true,true,true,true,false,true,true,false,false,false,false,false,false,false,false,false,false,false,false,false,false,false,false,false,false,false] rfl rfl (by kernel_rfl) (fun _ _ _ h=>h) (Or.inl ⟨by rfl,?_⟩) hHeld ?_ ?_
  ·rintro w' hs0_
   exact bx_yields hs0_ rfl rfl Try.underlying24 rfl (Scr.get_c s_)
  rotate_left
  ·simp only [Act.put,zP,zQ,zR,i64_w,i32_w];rfl
  refine pure_ (i:=10) (N:=(some 51)) (v:=?_) (a':=?_) #[true,true,true,true,true,true,true,false,true,true,true,false,false,false,false,false,false,false,false,false,false,false,false,false,false,false,false,false,false] rfl rfl (by kernel_rfl) (fun _ _ _ h=>h) (Or.inl ⟨by rfl,?_⟩) ?_ ?_;rotate_left
  ·intro w';go_simp;(with_reducible rfl)
  rotate_left
  ·simp only [Act.put,zP,zQ,zR,i64_w,i32_w];rfl
  refine take_ (i:=11) (N:=(some 52)) (v:=(.int .i64 s_.cols)) (a':=?_) #[true,true,true,true,true,true,true,false,true,true,true,true,false,false,false,false,false,false,false,false,false,false,false,false,false,false,false,false,false] rfl rfl (by kernel_rfl) (fun _ _ _ h=>h) (Or.inl ⟨by rfl,?_⟩) hHeld ?_ ?_
  ·rintro w' hs0_
   exact bx_yields hs0_ rfl rfl Try.underlying3 rfl (Scr.get_cols s_)
  rotate_left
  ·simp only [Act.put,zP,zQ,zR,i64_w,i32_w];rfl
  refine pure_ (i:=12) (N:=(some 53)) (v:=?_) (a':=?_) #[true,true,true,true,true,true,true,false,true,true,true,true,true,false,false,false,false,false,false,false,false,false,false,false,false,false,false,false,false] rfl rfl (by kernel_rfl) (fun _ _ _ h=>h) (Or.inl ⟨by rfl,?_⟩) ?_ ?_;rotate_left
  ·intro w';go_simp;(with_reducible rfl)
  rotate_left
  ·simp only [Act.put,zP,zQ,zR,i64_w,i32_w];rfl
  refine pure_ (i:=13) (N:=(some 54)) (v:=?_) (a':=?_) #[true,true,true,true,true,true,true,false,true,true,true,true,true,true,false,false,false,false,false,false,false,false,false,false,false,false,false,false,false] rfl rfl (by kernel_rfl) (fun _ _ _ h=>h) (Or.inl ⟨by rfl,?_⟩) ?_ ?_;rotate_left
  ·intro w';go_simp;(with_reducible rfl)
  rotate_left
  ·simp only [Act.put,zP,zQ,zR,i64_w,i32_w];rfl
  refine pure_ (i:=14) (N:=(some 55)) (v:=?_) (a':=?_) #[true,true,true,true,true,true,true,false,true,true,true,true,true,true,true,false,false,false,false,false,false,false,false,false,false,false,false,false,false] rfl rfl (by kernel_rfl) (fun _ _ _ h=>h) (Or.inl ⟨by rfl,?_⟩) ?_ ?_;rotate_left
  ·intro w';go_simp;(with_reducible rfl)
  rotate_left
  ·simp only [Act.put,zP,zQ,zR,i64_w,i32_w];rfl
  refine pure_ (i:=16) (N:=(some 57)) (v:=?_) (a':=?_) #[true,true,true,true,true,true,true,false,true,true,true,true,true,true,true,false,true,false,false,false,false,false,false,false,false,false,false,false,false] rfl rfl (by kernel_rfl) (fun _ _ _ h=>h) (Or.inl ⟨by rfl,?_⟩) ?_ ?_;rotate_left
  ·intro w';go_simp;(with_reducible rfl)
  rotate_left
  ·simp only [Act.put,zP,zQ,zR,i64_w,i32_w];rfl
  refine take_ (i:=17) (N:=(some 58)) (v:=(.slice s_.c.A s_.c.n s_.c.c)) (a':=?_) #[true,true,true,true,true,true,true,false,true,true,true,true,true,true,true,false,true,true,false,false,false,false,false,false,false,false,false,false,false] rfl rfl (by kernel_rfl) (fun _ _ _ h=>h) (Or.inl ⟨by rfl,?_⟩) hHeld ?_ ?_
  ·rintro w' hs0_
   exact bx_yields hs0_ rfl rfl Try.underlying24 rfl (Scr.get_c s_)
  rotate_left
  ·simp only [Act.put,zP,zQ,zR,i64_w,i32_w];rfl
  refine pure_ (i:=18) (N:=(some 59)) (v:=?_) (a':=?_) #[true,true,true,true,true,true,true,false,true,true,true,true,true,true,true,false,true,true,true,false,false,false,false,false,false,false,false,false,false] rfl rfl (by kernel_rfl) (fun _ _ _ h=>h) (Or.inl ⟨by rfl,?_⟩) ?_ ?_;rotate_left
  ·intro w';go_simp;(with_reducible rfl)
  rotate_left
  ·simp only [Act.put,zP,zQ,zR,i64_w,i32_w];rfl
  refine take_ (i:=19) (N:=(some 60)) (v:=(.int .i64 s_.cols)) (a':=?_) #[true,true,true,true,true,true,true,false,true,true,true,true,true,true,true,false,true,true,true,true,false,false,false,false,false,false,false,false,false] rfl rfl (by kernel_rfl) (fun _ _ _ h=>h) (Or.inl ⟨by rfl,?_⟩) hHeld ?_ ?_
  ·rintro w' hs0_
   exact bx_yields hs0_ rfl rfl Try.underlying3 rfl (Scr.get_cols s_)
  rotate_left
  ·simp only [Act.put,zP,zQ,zR,i64_w,i32_w];rfl
  refine pure_ (i:=20) (N:=(some 61)) (v:=?_) (a':=?_) #[true,true,true,true,true,true,true,false,true,true,true,true,true,true,true,false,true,true,true,true,true,false,false,false,false,false,false,false,false] rfl rfl (by kernel_rfl) (fun _ _ _ h=>h) (Or.inl ⟨by rfl,?_⟩) ?_ ?_;rotate_left
  ·intro w';go_simp;(with_reducible rfl)
  rotate_left
  ·simp only [Act.put,zP,zQ,zR,i64_w,i32_w];rfl
  refine pure_ (i:=21) (N:=(some 62)) (v:=?_) (a':=?_) #[true,true,true,true,true,true,true,false,true,true,true,true,true,true,true,false,true,true,true,true,true,true,false,false,false,false,false,false,false] rfl rfl (by kernel_rfl) (fun _ _ _ h=>h) (Or.inl ⟨by rfl,?_⟩) ?_ ?_;rotate_left
  ·intro w';go_simp;(with_reducible rfl)
  rotate_left
  ·simp only [Act.put,zP,zQ,zR,i64_w,i32_w];rfl
  refine pure_ (i:=22) (N:=(some 63)) (v:=?_) (a':=?_) #[true,true,true,true,true,true,true,false,true,true,true,true,true,true,true,false,true,true,true,true,true,true,true,false,false,false,false,false,false] rfl rfl (by kernel_rfl) (fun _ _ _ h=>h) (Or.inl ⟨by rfl,?_⟩) ?_ ?_;rotate_left
  ·intro w';go_simp;(with_reducible rfl)
  rotate_left
  ·simp only [Act.put,zP,zQ,zR,i64_w,i32_w];rfl
  refine pure_ (i:=23) (N:=(some 64)) (v:=?_) (a':=?_) #[true,true,true,true,true,true,true,false,true,true,true,true,true,true,true,false,true,true,true,true,true,true,true,true,false,false,false,false,false] rfl rfl (by kernel_rfl) (fun _ _ _ h=>h) (Or.inl ⟨by rfl,?_⟩) ?_ ?_;rotate_left
  ·intro w';go_simp;(with_reducible rfl)
  rotate_left
  ·simp only [Act.put,zP,zQ,zR,i64_w,i32_w];rfl
  refine pure_ (i:=24) (N:=(some 65)) (v:=?_) (a':=?_) #[true,true,true,true,true,true,true,false,true,true,true,true,true,true,true,false,true,true,true,true,true,true,true,true,true,false,false,false,false] rfl rfl (by kernel_rfl) (fun _ _ _ h=>h) (Or.inl ⟨by rfl,?_⟩) ?_ ?_;rotate_left
  ·intro w';go_simp;(with_reducible rfl)
  rotate_left
  ·simp only [Act.put,zP,zQ,zR,i64_w,i32_w];rfl
  refine pure_ (i:=28) (N:=(some 69)) (v:=?_) (a':=?_) #[true,true,true,true,true,true,true,false,true,true,true,true,true,true,true,false,true,true,true,true,true,true,true,true,true,false,false,false,true] rfl rfl (by kernel_rfl) (fun _ _ _ h=>h) (Or.inl ⟨by rfl,?_⟩) ?_ ?_;rotate_left
  ·intro w';go_simp;(with_reducible rfl)
  rotate_left
  ·simp only [Act.put,zP,zQ,zR,i64_w,i32_w];rfl
  refine one_ (i:=7) (N:=(some 48)) #[true,true,true,true,true,true,true,true,true,true,true,true,true,true,true,false,true,true,true,true,true,true,true,true,true,false,false,false,true] rfl rfl (by kernel_rfl) (by decide) (fun K hK=>?_);refine goes_ Try.func23 (by kernel_rfl) rfl _ (by rfl) rfl rfl rfl ?_;(try simp only [zS,zT,zU]);(try rw [hcl]);(try rw [w5]);have e_:=gins_call (c:=s_.c) HC.out hlen hRR hCC ht1 hXC hNN;refine Calls.mono e_ ?_;clear e_;rintro e w123 ⟨u1,rfl,Z1,hZ1,NU0,hb⟩
  refine ⟨_,rfl,?_⟩;have H1:=zA (mvRow.new (ok:=fun k=>k < w.heap.size) (n:=w.heap.size) (gs:=[g11]) NU0 HB.out.size (by simp only [zW,List.not_mem_nil,or_false];rintro g_ hg_;rcases hg_ with rfl <;> first|exact BX11.out.lt));clear NU0;replace BX11:=zA (zM BX11.out hb);replace HC:=zA (mvRow.call HC.out hb);(try replace H1:=zA (mvRow.call H1.out hb));(try replace H2:=zA (mvRow.call H2.out hb));(try replace H3:=zA (mvRow.call H3.out hb));replace HB:=zA (zJ HB.out HB.out.size hb);clear hb;refine hK.out _ _ BX11.out.bx (fun hHeld=>?_);clear hK K;refine norm_ (a':=?_) ?_ ?_;rotate_left
  ·show Act.put _ (some 48) _ = _
   simp only [Act.put,zP,zQ,zR,i64_w,i32_w];rfl
  refine one_ (i:=15) (N:=(some 56)) #[true,true,true,true,true,true,true,true,true,true,true,true,true,true,true,true,true,true,true,true,true,true,true,true,true,false,false,false,true] rfl rfl (by kernel_rfl) (by decide) (fun K hK=>?_);refine goes_ Try.func24 (by kernel_rfl) rfl _ (by rfl) rfl rfl rfl ?_;(try simp only [zS,zT,zU]);(try rw [hcl]);(try rw [w5]);have e_:=gdel_call (c:=s_.c) HC.out hlen hRR hCC ht1 hXC hNN;refine Calls.mono e_ ?_;clear e_;rintro e w124 ⟨u2,rfl,Z2,hZ2,NU0,hb⟩
  refine ⟨_,rfl,?_⟩;have H2:=zA (mvRow.new (ok:=fun k=>k < w.heap.size) (n:=w.heap.size) (gs:=[g11]) NU0 HB.out.size (by simp only [zW,List.not_mem_nil,or_false];rintro g_ hg_;rcases hg_ with rfl <;> first|exact BX11.out.lt));clear NU0;replace BX11:=zA (zM BX11.out hb);replace HC:=zA (mvRow.call HC.out hb);(try replace H1:=zA (mvRow.call H1.out hb));(try replace H2:=zA (mvRow.call H2.out hb));(try replace H3:=zA (mvRow.call H3.out hb));replace HB:=zA (zJ HB.out HB.out.size hb);clear hb;refine hK.out _ _ BX11.out.bx (fun hHeld=>?_);clear hK K;refine norm_ (a':=?_) ?_ ?_;rotate_left
  ·show Act.put _ (some 56) _ = _
   simp only [Act.put,zP,zQ,zR,i64_w,i32_w];rfl
  refine one_ (i:=25) (N:=(some 66)) #[true,true,true,true,true,true,true,true,true,true,true,true,true,true,true,true,true,true,true,true,true,true,true,true,true,true,false,false,true] rfl rfl (by kernel_rfl) (by decide) (fun K hK=>?_);refine goes_ Try.func25 (by kernel_rfl) rfl _ (by rfl) rfl rfl rfl ?_;(try simp only [zS,zT,zU]);(try rw [hcl]);(try rw [w5]);have e_:=gera_call (c:=s_.c) HC.out hlen hRR hCC ht1 hXC hXN6;refine Calls.mono e_ ?_;clear e_;rintro e w125 ⟨u3,rfl,Z3,hZ3,NU0,hb⟩
  refine ⟨_,rfl,?_⟩;have H3:=zA (mvRow.new (ok:=fun k=>k < w.heap.size) (n:=w.heap.size) (gs:=[g11]) NU0 HB.out.size (by simp only [zW,List.not_mem_nil,or_false];rintro g_ hg_;rcases hg_ with rfl <;> first|exact BX11.out.lt));clear NU0;replace BX11:=zA (zM BX11.out hb);replace HC:=zA (mvRow.call HC.out hb);(try replace H1:=zA (mvRow.call H1.out hb));(try replace H2:=zA (mvRow.call H2.out hb));(try replace H3:=zA (mvRow.call H3.out hb));replace HB:=zA (zJ HB.out HB.out.size hb);clear hb;refine hK.out _ _ BX11.out.bx (fun hHeld=>?_);clear hK K;refine norm_ (a':=?_) ?_ ?_;rotate_left
  ·show Act.put _ (some 66) _ = _
   simp only [Act.put,zP,zQ,zR,i64_w,i32_w];rfl
  refine one_ (i:=26) (N:=(some 67)) #[true,true,true,true,true,true,true,true,true,true,true,true,true,true,true,true,true,true,true,true,true,true,true,true,true,true,true,false,true] rfl rfl (by kernel_rfl) (by decide) (fun K hK=>?_);refine bsn_if (m:=3) (by rfl) rfl (by go_simp;rfl) ?_;intro gL wL hNL hgL bxL;have BXL:=zA (show Bx w.heap.size 24 gL wL _ from ⟨by have:=HB.out.size;omega,bxL⟩);have NE11_L:=zA (show g11 ≠ gL from by have:=BX11.out.lt;omega);replace HB:=zA (zL HB.out HB.out.size hgL);replace BX11:=zA (zO BX11.out hgL);replace HC:=zA (mvRow.fresh HC.out hNL hgL);replace H1:=zA (mvRow.fresh H1.out hNL hgL);replace H2:=zA (mvRow.fresh H2.out hNL hgL);replace H3:=zA (mvRow.fresh H3.out hNL hgL);clear hNL hgL bxL;refine hK.out _ _ BX11.out.bx (fun hHeld=>?_);clear hK K;refine norm_ (a':=?_) ?_ ?_;rotate_left
  ·show Act.put _ (some 67) _ = _
   simp only [Act.put,zP,zQ,zR,i64_w,i32_w];rfl
  refine pure_ (i:=27) (N:=(some 68)) (v:=?_) (a':=?_) #[true,true,true,true,true,true,true,true,true,true,true,true,true,true,true,true,true,true,true,true,true,true,true,true,true,true,true,true,true] rfl rfl (by kernel_rfl) (fun _ _ _ h=>h) (Or.inl ⟨by rfl,?_⟩) ?_ ?_;rotate_left
  ·intro w';go_simp;(with_reducible rfl)
  rotate_left
  ·simp only [Act.put,zP,zQ,zR,i64_w,i32_w];rfl
  refine done_ (by kernel_rfl) ?_;clear hHeld;obtain ⟨x_,hx_,hu1,_,hq_⟩:=Row.reads H1.out;cases hx_;clear hq_;rw [wfold_len,hZ1] at hu1;obtain ⟨x_,hx_,hu2,_,hq_⟩:=Row.reads H2.out;cases hx_;clear hq_;rw [wfold_len,hZ2] at hu2;obtain ⟨x_,hx_,hu3,_,hq_⟩:=Row.reads H3.out;cases hx_;clear hq_;rw [wfold_len,hZ3] at hu3;replace hcn:=hcn.out;have hlp : t0 * C + C ≤ lc.length:=by
   have h1 : (t0 + 1) * C ≤ R * C:=Nat.mul_le_mul (by clear w5;omega) (Nat.le_refl _);rw [Nat.add_mul,Nat.one_mul] at h1;rw [hlen];exact h1
  have hl6 : lc.length ≤ 1000000:=by rw [hlen];exact Nat.le_trans (Nat.mul_le_mul hR1.2 hC1.2) (by decide)
  replace hlen:=zA hlen;clear w5;go_wp2;(try simp only [hu1,hu2,hu3,hcn,hrw,hcl]);go_loopg [69] 3 (fun kq v69 wr=>∃ (i : Nat),v69 = .int .i64 (i : Int)∧Aside0 (kq = 3 - i∧i ≤ 3)∧Aside0 (Below w.heap.size w wr)∧Aside0 (Bx w.heap.size 31 g11 wr s_.cs)∧Aside0 (Bx w.heap.size 24 gL wr #[.slice u1.A u1.n u1.c,.slice u2.A u2.n u2.c,.slice u3.A u3.n u3.c])∧Aside0 (Row k35 s_.c (fun x=>x = lc) wr (Nb (fun k=>k < w.heap.size) w.heap.size [gL,g11]))∧Aside0 (Row k35 u1 (fun x=>x = wfold C Z1 (t0 * C) C) wr (Nb (fun k=>k < w.heap.size) w.heap.size [gL,g11]))∧Aside0 (Row k35 u2 (fun x=>x = wfold C Z2 (t0 * C) C) wr (Nb (fun k=>k < w.heap.size) w.heap.size [gL,g11]))∧Aside0 (Row k35 u3 (fun x=>x = wfold C Z3 (t0 * C) C) wr (Nb (fun k=>k < w.heap.size) w.heap.size [gL,g11])))
  case atStart=>exact ⟨0,rfl,⟨rfl,by decide⟩,HB,BX11,BXL,HC,H1,H2,H3⟩
  case round =>
   clear HB BX11 BXL HC H1 H2 H3;obtain ⟨i,rfl,HK,HB,BX11,BXL,HC,H1,H2,H3⟩:=hrel;by_cases hlt : i < 3
   ·obtain rfl|rfl|rfl : i = 0∨i = 1∨i = 2:=by omega
    ·have hxL : wr.cell? ⟨gL,0,none⟩ = some (.slice u1.A u1.n u1.c):=by rw [zB wr gL _ _ 24 (0,0) BXL.out.bx];rfl
     have hx11_c:=(zB _ _ _ _ _ _ BX11.out.bx).trans (Scr.get_c _);have hx11_k:=(zB _ _ _ _ _ _ BX11.out.bx).trans (Scr.get_cols _);go_wp2_with (fail);have e_:=gmend_call (c:=⟨u1.A,lc.length,u1.c⟩) (Row.at' H1.out hu1) (R:=R) (C:=C) (y:=t0) (by rw [wfold_len,hZ1];exact hlen.out) hRR hCC ht1;refine Calls.mono e_ ?_;clear e_ hxL hx11_c hx11_k;rintro e w84 ⟨v,rfl,NV,hb⟩
     rw [whole_idem (by rw [hZ1];exact hlp)] at NV;replace BX11:=zA (zM BX11.out hb);replace BXL:=zA (zM BXL.out hb);replace HC:=zA (mvRow.call HC.out hb);replace H1:=zA (mvRow.call H1.out hb);replace H2:=zA (mvRow.call H2.out hb);replace H3:=zA (mvRow.call H3.out hb);replace HB:=zA (zJ HB.out HB.out.size hb);clear hb;have hx11_c:=(zB _ _ _ _ _ _ BX11.out.bx).trans (Scr.get_c _);have hx11_k:=(zB _ _ _ _ _ _ BX11.out.bx).trans (Scr.get_cols _);go_wp2_with (fail);have e_:=same_call NV (Row.at' H1.out hu1) (by rw [wfold_len,hZ1];exact hl6);refine Calls.mono e_ ?_;clear e_ hx11_c hx11_k NV;rintro e w86 ⟨rfl,hb⟩
     replace BX11:=zA (zM BX11.out hb);replace BXL:=zA (zM BXL.out hb);replace HC:=zA (mvRow.call HC.out hb);replace H1:=zA (mvRow.call H1.out hb);replace H2:=zA (mvRow.call H2.out hb);replace H3:=zA (mvRow.call H3.out hb);replace HB:=zA (zJ HB.out HB.out.size hb);clear hb;go_wp2_with (fail);go_roundg (3 - 1)
     case measure=>have:=HK.out;omega
     case rel=>exact ⟨1,rfl,⟨rfl,by decide⟩,HB,BX11,BXL,HC,H1,H2,H3⟩
    ·have hxL : wr.cell? ⟨gL,1,none⟩ = some (.slice u2.A u2.n u2.c):=by rw [zB wr gL _ _ 24 (0,0) BXL.out.bx];rfl
     have hx11_c:=(zB _ _ _ _ _ _ BX11.out.bx).trans (Scr.get_c _);have hx11_k:=(zB _ _ _ _ _ _ BX11.out.bx).trans (Scr.get_cols _);go_wp2_with (fail);have e_:=gmend_call (c:=⟨u2.A,lc.length,u2.c⟩) (Row.at' H2.out hu2) (R:=R) (C:=C) (y:=t0) (by rw [wfold_len,hZ2];exact hlen.out) hRR hCC ht1;refine Calls.mono e_ ?_;clear e_ hxL hx11_c hx11_k;rintro e w84 ⟨v,rfl,NV,hb⟩
     rw [whole_idem (by rw [hZ2];exact hlp)] at NV;replace BX11:=zA (zM BX11.out hb);replace BXL:=zA (zM BXL.out hb);replace HC:=zA (mvRow.call HC.out hb);replace H1:=zA (mvRow.call H1.out hb);replace H2:=zA (mvRow.call H2.out hb);replace H3:=zA (mvRow.call H3.out hb);replace HB:=zA (zJ HB.out HB.out.size hb);clear hb;have hx11_c:=(zB _ _ _ _ _ _ BX11.out.bx).trans (Scr.get_c _);have hx11_k:=(zB _ _ _ _ _ _ BX11.out.bx).trans (Scr.get_cols _);go_wp2_with (fail);have e_:=same_call NV (Row.at' H2.out hu2) (by rw [wfold_len,hZ2];exact hl6);refine Calls.mono e_ ?_;clear e_ hx11_c hx11_k NV;rintro e w86 ⟨rfl,hb⟩
     replace BX11:=zA (zM BX11.out hb);replace BXL:=zA (zM BXL.out hb);replace HC:=zA (mvRow.call HC.out hb);replace H1:=zA (mvRow.call H1.out hb);replace H2:=zA (mvRow.call H2.out hb);replace H3:=zA (mvRow.call H3.out hb);replace HB:=zA (zJ HB.out HB.out.size hb);clear hb;go_wp2_with (fail);go_roundg (3 - 2)
     case measure=>have:=HK.out;omega
     case rel=>exact ⟨2,rfl,⟨rfl,by decide⟩,HB,BX11,BXL,HC,H1,H2,H3⟩
    ·have hxL : wr.cell? ⟨gL,2,none⟩ = some (.slice u3.A u3.n u3.c):=by rw [zB wr gL _ _ 24 (0,0) BXL.out.bx];rfl
     have hx11_c:=(zB _ _ _ _ _ _ BX11.out.bx).trans (Scr.get_c _);have hx11_k:=(zB _ _ _ _ _ _ BX11.out.bx).trans (Scr.get_cols _);go_wp2_with (fail);have e_:=gmend_call (c:=⟨u3.A,lc.length,u3.c⟩) (Row.at' H3.out hu3) (R:=R) (C:=C) (y:=t0) (by rw [wfold_len,hZ3];exact hlen.out) hRR hCC ht1;refine Calls.mono e_ ?_;clear e_ hxL hx11_c hx11_k;rintro e w84 ⟨v,rfl,NV,hb⟩
     rw [whole_idem (by rw [hZ3];exact hlp)] at NV;replace BX11:=zA (zM BX11.out hb);replace BXL:=zA (zM BXL.out hb);replace HC:=zA (mvRow.call HC.out hb);replace H1:=zA (mvRow.call H1.out hb);replace H2:=zA (mvRow.call H2.out hb);replace H3:=zA (mvRow.call H3.out hb);replace HB:=zA (zJ HB.out HB.out.size hb);clear hb;have hx11_c:=(zB _ _ _ _ _ _ BX11.out.bx).trans (Scr.get_c _);have hx11_k:=(zB _ _ _ _ _ _ BX11.out.bx).trans (Scr.get_cols _);go_wp2_with (fail);have e_:=same_call NV (Row.at' H3.out hu3) (by rw [wfold_len,hZ3];exact hl6);refine Calls.mono e_ ?_;clear e_ hx11_c hx11_k NV;rintro e w86 ⟨rfl,hb⟩
     replace BX11:=zA (zM BX11.out hb);replace BXL:=zA (zM BXL.out hb);replace HC:=zA (mvRow.call HC.out hb);replace H1:=zA (mvRow.call H1.out hb);replace H2:=zA (mvRow.call H2.out hb);replace H3:=zA (mvRow.call H3.out hb);replace HB:=zA (zJ HB.out HB.out.size hb);clear hb;go_wp2_with (fail);go_roundg (3 - 3)
     case measure=>have:=HK.out;omega
     case rel=>exact ⟨3,rfl,⟨rfl,by decide⟩,HB,BX11,BXL,HC,H1,H2,H3⟩
   ·have ej : i = 3:=by have:=HK.out;omega
    subst ej;go_wp2;go_ret;exact ⟨rfl,HB.out⟩
end Go.Proofs.Ytooageeehallbaa.Scr
