/- Parts of the claim's proof, merged; no condition beyond what each theorem states. -/
import Derived.Test.YtooageeehallbaaG10
import Derived.Test.YtooageeehallbaaG11
import Derived.Laws.Cover3
import Derived.Laws.ResultCell
namespace Go.Proofs.Ytooageeehallbaa.Scr
open Go.RowKit Go.Proofs.YtooageeehallbaaW.PrintWords Go.Proofs.YtooageeehallbaaW.PrintLast Go.Proofs.YtooageeehallbaaW.PrintMore Go.Proofs.Ytooageeehallbaa.QRunsCut Go.Proofs.Ytooageeehallbaa.Runs
attribute [local go_sem] max2_int min2_int max_two min_two max_three min_three max_four min_four   -- for this text's walks alone
set_option linter.unusedVariables false
set_option linter.unusedSimpArgs false
theorem Row_n {v : Sl} {x : List S35} {W : World} {ok : Nat → Prop} {n : Nat} (h : Row k35 v (fun y=>y = x) W ok) (hx : x.length = n) : v.n = n:=by
 obtain ⟨y,rfl,hn,_,_⟩:=Row.reads h;rw [hn,hx]
theorem rem5 {a : Int} (h : 0 ≤ a) : ∃ t : Nat,a.tmod 5 = (t : Int)∧t ≤ 4:=by
 have h1:=law_mod (b:=5) h (by decide);have e8 : ((5 : Nat) : Int) = 5:=rfl;rw [e8] at h1;exact ⟨(a.tmod 5).toNat,by omega,by omega⟩
set_option maxHeartbeats 4000000 in
set_option maxRecDepth 100000 in
theorem gridSizes_walk (bl : Sl) (k a b : Int) (hk : 0 ≤ k∧k ≤ 255) (ha : 0 ≤ a∧a ≤ 255) (hb : 0 ≤ b∧b ≤ 255) (w : World) (hl : Row (Kd.int .u8) bl Bytes8 w (fun k=>k < w.heap.size)) :
 Calls Try.prog 4 #[.slice bl.A bl.n bl.c,.int .u8 k,.int .u8 a,.int .u8 b] w fun e w'=>e = .returned (.bool true)∧Below w.heap.size w w':=by
 have HB:=zA (zE w.heap.size w);have haa:=zA ha;have hbb:=zA hb;clear ha hb;go_enter Try.func4,Try.ntmps4
 rcases Nat.lt_or_ge 30 bl.n with hbig|hsmall
 ·have e1 : decide (30 < (bl.n : Int)) = true:=zC (by omega);go_wp2_with (first|((with_reducible refine zG (N:=14) rfl ?_);refine goesL_ (some 14) rfl rfl Try.func10 (by kernel_rfl) rfl _ rfl rfl ?_;(try simp only [zS,zT,zU]);refine Calls.mono (known8_call _) ?_;rintro e w14 ⟨rfl,hb⟩;(try replace HL:=zA (mvRow.call HL.out hb));(try replace HI:=zA (mvInv.call HI.out hb));(try replace HC:=zA (mvRow.call HC.out hb));(try replace HV:=zA (mvRow.call HV.out hb));replace HB:=zA (zJ HB.out HB.out.size hb);clear hb;refine ⟨_,rfl,?_⟩)|((with_reducible refine zG (N:=9) rfl ?_);refine bx_alloc (t:=31) (n:=w.heap.size) (cs:=Scr.zero.cs) rfl rfl rfl Scr.infoz HB.out.size ?_;intro g9 w9 hN hg bx;replace HB:=zA (zL HB.out HB.out.size hg);(try replace HL:=zA (mvRow.fresh HL.out hN hg));(try replace HI:=zA (mvInv.fresh HI.out hN hg));(try replace HC:=zA (mvRow.fresh HC.out hN hg));(try replace HV:=zA (mvRow.fresh HV.out hN hg));have BX9:=zA bx;clear hN hg bx)|((with_reducible refine zH (t:=31) (p:=9) rfl ?_);refine bx_store BX9.out rfl rfl rfl rfl (cs':=Scr.cs _) rfl (Scr.sizes _) rfl (Scr.all _) ?_;intro w_23 hg bx;replace HB:=zA (zK HB.out BX9.out hg);(try replace HL:=zA (mvRow.grown HL.out hg (by simp only [zW,true_or,or_true])));(try replace HI:=zA (mvInv.grown HI.out hg (by simp only [zW,true_or,or_true])));(try replace HC:=zA (mvRow.grown HC.out hg (by simp only [zW,true_or,or_true])));(try replace HV:=zA (mvRow.grown HV.out hg (by simp only [zW,true_or,or_true])));clear BX9;have BX9:=zA bx;clear bx hg)|((with_reducible refine zG (N:=25) rfl ?_);refine bx_get BX9.out rfl rfl rfl rfl Try.underlying3 rfl (Scr.get_rows _) ?_)|((with_reducible refine zG (N:=31) rfl ?_);refine bx_get BX9.out rfl rfl rfl rfl Try.underlying3 rfl (Scr.get_cols _) ?_)|((with_reducible refine zG (N:=37) rfl ?_);refine bx_get BX9.out rfl rfl rfl rfl Try.underlying24 rfl (Scr.get_c _) ?_)|((with_reducible refine zG (N:=39) rfl ?_);refine bx_get BX9.out rfl rfl rfl rfl Try.underlying3 rfl (Scr.get_rows _) ?_)|((with_reducible refine zG (N:=41) rfl ?_);refine bx_get BX9.out rfl rfl rfl rfl Try.underlying3 rfl (Scr.get_cols _) ?_)|((with_reducible refine zG (N:=49) rfl ?_);refine bx_get BX9.out rfl rfl rfl rfl Try.underlying3 rfl (Scr.get_rows _) ?_)|((with_reducible refine zG (N:=51) rfl ?_);refine bx_get BX9.out rfl rfl rfl rfl Try.underlying3 rfl (Scr.get_cols _) ?_)|((with_reducible refine zG (N:=23) rfl ?_);refine goesL_ (some 23) rfl rfl Try.func11 (by kernel_rfl) rfl _ rfl rfl ?_;(try simp only [zS,zT,zU]);have e_:=seat_inv _ _ hk1.out hk2.out bl _ HL.out;(try dsimp only at e_);refine Calls.mono e_ ?_;clear e_;rintro e w23 ⟨s_,rfl,NI0,hb⟩;have HI:=zA (mvInv.back (ok:=fun k=>k < w.heap.size) (n:=w.heap.size) (gs:=[]) NI0 HB.out.size (by simp));clear NI0;clear HL;obtain ⟨lc,hG,hcn,hcc,HC0⟩:=Row.pin (show Row k35 s_.c (Grid _ _) _ _ from HI.out.c);have HC:=zA HC0;clear HC0;have hGr:=zA hG;clear hG;have hrw:=HI.out.hrows;have hcl:=HI.out.hcols;replace hcn:=zA hcn;replace hcc:=zA hcc;(try replace HL:=zA (mvRow.call HL.out hb));(try replace HI:=zA (mvInv.call HI.out hb));(try replace HC:=zA (mvRow.call HC.out hb));(try replace HV:=zA (mvRow.call HV.out hb));replace HB:=zA (zJ HB.out HB.out.size hb);clear hb;refine ⟨_,rfl,?_⟩));go_ret;exact ⟨rfl,HB.out⟩
 ·have e1 : decide (30 < (bl.n : Int)) = false:=zD (by omega);have HL:=zA (mvRow.enter (law_row hl hsmall) (n:=w.heap.size) rfl);have hk1:=zA hk;have hk2:=zA (show 0 ≤ k.tdiv 6 % 256∧k.tdiv 6 % 256 ≤ 255 by omega);clear hl hk;go_upto_region 6 with (first|((with_reducible refine zG (N:=14) rfl ?_);refine goesL_ (some 14) rfl rfl Try.func10 (by kernel_rfl) rfl _ rfl rfl ?_;(try simp only [zS,zT,zU]);refine Calls.mono (known8_call _) ?_;rintro e w14 ⟨rfl,hb⟩;(try replace HL:=zA (mvRow.call HL.out hb));(try replace HI:=zA (mvInv.call HI.out hb));(try replace HC:=zA (mvRow.call HC.out hb));(try replace HV:=zA (mvRow.call HV.out hb));replace HB:=zA (zJ HB.out HB.out.size hb);clear hb;refine ⟨_,rfl,?_⟩)|((with_reducible refine zG (N:=9) rfl ?_);refine bx_alloc (t:=31) (n:=w.heap.size) (cs:=Scr.zero.cs) rfl rfl rfl Scr.infoz HB.out.size ?_;intro g9 w9 hN hg bx;replace HB:=zA (zL HB.out HB.out.size hg);(try replace HL:=zA (mvRow.fresh HL.out hN hg));(try replace HI:=zA (mvInv.fresh HI.out hN hg));(try replace HC:=zA (mvRow.fresh HC.out hN hg));(try replace HV:=zA (mvRow.fresh HV.out hN hg));have BX9:=zA bx;clear hN hg bx)|((with_reducible refine zH (t:=31) (p:=9) rfl ?_);refine bx_store BX9.out rfl rfl rfl rfl (cs':=Scr.cs _) rfl (Scr.sizes _) rfl (Scr.all _) ?_;intro w_23 hg bx;replace HB:=zA (zK HB.out BX9.out hg);(try replace HL:=zA (mvRow.grown HL.out hg (by simp only [zW,true_or,or_true])));(try replace HI:=zA (mvInv.grown HI.out hg (by simp only [zW,true_or,or_true])));(try replace HC:=zA (mvRow.grown HC.out hg (by simp only [zW,true_or,or_true])));(try replace HV:=zA (mvRow.grown HV.out hg (by simp only [zW,true_or,or_true])));clear BX9;have BX9:=zA bx;clear bx hg)|((with_reducible refine zG (N:=25) rfl ?_);refine bx_get BX9.out rfl rfl rfl rfl Try.underlying3 rfl (Scr.get_rows _) ?_)|((with_reducible refine zG (N:=31) rfl ?_);refine bx_get BX9.out rfl rfl rfl rfl Try.underlying3 rfl (Scr.get_cols _) ?_)|((with_reducible refine zG (N:=37) rfl ?_);refine bx_get BX9.out rfl rfl rfl rfl Try.underlying24 rfl (Scr.get_c _) ?_)|((with_reducible refine zG (N:=39) rfl ?_);refine bx_get BX9.out rfl rfl rfl rfl Try.underlying3 rfl (Scr.get_rows _) ?_)|((with_reducible refine zG (N:=41) rfl ?_);refine bx_get BX9.out rfl rfl rfl rfl Try.underlying3 rfl (Scr.get_cols _) ?_)|((with_reducible refine zG (N:=49) rfl ?_);refine bx_get BX9.out rfl rfl rfl rfl Try.underlying3 rfl (Scr.get_rows _) ?_)|((with_reducible refine zG (N:=51) rfl ?_);refine bx_get BX9.out rfl rfl rfl rfl Try.underlying3 rfl (Scr.get_cols _) ?_)|((with_reducible refine zG (N:=23) rfl ?_);refine goesL_ (some 23) rfl rfl Try.func11 (by kernel_rfl) rfl _ rfl rfl ?_;(try simp only [zS,zT,zU]);have e_:=seat_inv _ _ hk1.out hk2.out bl _ HL.out;(try dsimp only at e_);refine Calls.mono e_ ?_;clear e_;rintro e w23 ⟨s_,rfl,NI0,hb⟩;have HI:=zA (mvInv.back (ok:=fun k=>k < w.heap.size) (n:=w.heap.size) (gs:=[]) NI0 HB.out.size (by simp));clear NI0;clear HL;obtain ⟨lc,hG,hcn,hcc,HC0⟩:=Row.pin (show Row k35 s_.c (Grid _ _) _ _ from HI.out.c);have HC:=zA HC0;clear HC0;have hGr:=zA hG;clear hG;have hrw:=HI.out.hrows;have hcl:=HI.out.hcols;replace hcn:=zA hcn;replace hcc:=zA hcc;(try replace HL:=zA (mvRow.call HL.out hb));(try replace HI:=zA (mvInv.call HI.out hb));(try replace HC:=zA (mvRow.call HC.out hb));(try replace HV:=zA (mvRow.call HV.out hb));replace HB:=zA (zJ HB.out HB.out.size hb);clear hb;refine ⟨_,rfl,?_⟩))
  clear e1;obtain ⟨R,hRe,hR1⟩ : ∃ R : Nat,k % 6 + 1 = (R : Int)∧1 ≤ R∧R ≤ 6:=⟨(k % 6 + 1).toNat,by have:=hk1.out;omega,by have:=hk1.out;omega,by have:=hk1.out;omega⟩;obtain ⟨C,hCe,hC1⟩ : ∃ C : Nat,k.tdiv 6 % 256 % 9 + 1 = (C : Int)∧1 ≤ C∧C ≤ 9:=⟨(k.tdiv 6 % 256 % 9 + 1).toNat,by have:=hk2.out;omega,by have:=hk2.out;omega,by have:=hk2.out;omega⟩;rw [hRe] at hrw;rw [hCe] at hcl;rw [hRe,hCe] at hGr HI;have hlen0 : lc.length = R * C:=by have h1:=hGr.out.len;rw [← Int.natCast_mul] at h1;omega
  clear hRe hCe hk1 hk2;obtain ⟨ra,hra,hra4⟩:=rem5 haa.out.1;obtain ⟨cb,hcb,hcb4⟩:=rem5 hbb.out.1;obtain ⟨R2,hR2e⟩ : ∃ R2,R2 = R + ra:=⟨_,rfl⟩;obtain ⟨C2,hC2e⟩ : ∃ C2,C2 = C + cb:=⟨_,rfl⟩;have z1 : 0 ≤ (ra : Int)∧(ra : Int) ≤ 1000000000:=by omega
  have z2 : 0 ≤ (cb : Int)∧(cb : Int) ≤ 1000000000:=by omega
  have z3 : (R : Int) + (ra : Int) = (R2 : Int):=by omega
  have z4 : (C : Int) + (cb : Int) = (C2 : Int):=by omega
  have z5 : 0 ≤ (R2 : Int)∧(R2 : Int) ≤ 1000000000:=by omega
  have z6 : 0 ≤ (C2 : Int)∧(C2 : Int) ≤ 1000000000:=by omega
  have m1 : R2 * C2 ≤ 10 * 13:=Nat.mul_le_mul (by omega) (by omega);have m2 : R * C ≤ 6 * 9:=Nat.mul_le_mul (by omega) (by omega);have hRR:=zA (show R ≤ R2 by omega);have hCC:=zA (show C ≤ C2 by omega);have hR2:=zA (show 1 ≤ R2∧R2 ≤ 1000 by omega);have hC2:=zA (show 1 ≤ C2∧C2 ≤ 1000 by omega);have hl6:=zA (show lc.length ≤ 1000000 by omega);have hR1':=zA (show 1 ≤ R∧R ≤ 1000 by omega);have hC1':=zA (show 1 ≤ C∧C ≤ 1000 by omega);obtain ⟨m,hm⟩ : ∃ m,m = R2 * C2:=⟨_,rfl⟩;have z7 : 0 ≤ (m : Int)∧(m : Int) ≤ 1000000000:=by omega
  have hmn:=zA (show min R R2 = R from Nat.min_eq_left hRR.out);have hmn2:=zA (show min R2 R = R from Nat.min_eq_right hRR.out);have w1 : wrap64 (ra : Int) = (ra : Int):=wrap64_nat z1;have w2 : wrap64 (cb : Int) = (cb : Int):=wrap64_nat z2;have w3 : wrap64 ((R : Int) + (ra : Int)) = (R2 : Int):=by rw [z3,wrap64_nat z5]
  have w4 : wrap64 ((C : Int) + (cb : Int)) = (C2 : Int):=by rw [z4,wrap64_nat z6]
  have e9 : wrap64 ((R2 : Int) * (C2 : Int)) = (m : Int):=by rw [← Int.natCast_mul,← hm,wrap64_nat z7]
  clear z1 z2 z3 z4 z5 z6 z7 hR2e hC2e m1 m2 haa hbb;have hlen:=zA hlen0;have hm':=zA hm;have szl1:=zA (show (szT lc C C2 (R2 * C2) (min R R2)).length = R2 * C2 by rw [hmn.out];exact szT_len hlen.out R (Nat.le_refl _) hRR.out);clear hlen0 hm hR1 hC1;have hR1:=hR1';have hC1:=hC1';clear hR1' hC1';have hb : Below w_23.heap.size w_23 w_23.drew:=(zE _ _).drew;replace BX9:=zA (zM BX9.out hb);(try replace HL:=zA (mvRow.call HL.out hb));(try replace HI:=zA (mvInv.call HI.out hb));(try replace HC:=zA (mvRow.call HC.out hb));(try replace HV:=zA (mvRow.call HV.out hb));replace HB:=zA (zJ HB.out HB.out.size hb);clear hb;refine start_ (n:=14) (S:=fun w'=>w'.heap[g9]? = some (.cells s_.cs 31 (0,0))) (ds:=[]) #[false,false,false,false,false,false,false,false,false,false,false,false,false,false] (by kernel_rfl) rfl rfl BX9.out.bx (fun hHeld=>?_);generalize World.drew w_23 = wD at HB BX9 HI HC hHeld ⊢;refine pure_ (i:=0) (N:=(some 24)) (v:=?_) (a':=?_) #[true,false,false,false,false,false,false,false,false,false,false,false,false,false] rfl rfl (by kernel_rfl) (fun _ _ _ h=>h) (Or.inl ⟨by rfl,?_⟩) ?_ ?_;rotate_left
  ·intro w';go_simp;(with_reducible rfl)
  rotate_left
  ·simp only [Act.put,zP,zQ,zR,i64_w,i32_w];rfl
  refine take_ (i:=1) (N:=(some 25)) (v:=(.int .i64 s_.rows)) (a':=?_) #[true,true,false,false,false,false,false,false,false,false,false,false,false,false] rfl rfl (by kernel_rfl) (fun _ _ _ h=>h) (Or.inl ⟨by rfl,?_⟩) hHeld ?_ ?_
  ·rintro w' hs0_
   exact bx_yields hs0_ rfl rfl Try.underlying3 rfl (Scr.get_rows s_)
  rotate_left
  ·simp only [Act.put,zP,zQ,zR,i64_w,i32_w];rfl
  refine pure_ (i:=2) (N:=(some 26)) (v:=?_) (a':=?_) #[true,true,true,false,false,false,false,false,false,false,false,false,false,false] rfl rfl (by kernel_rfl) (fun _ _ _ h=>h) (Or.inl ⟨by rfl,?_⟩) ?_ ?_;rotate_left
  ·intro w';go_simp;(with_reducible rfl)
  rotate_left
  ·simp only [Act.put,zP,zQ,zR,i64_w,i32_w];rfl
  refine pure_ (i:=3) (N:=(some 27)) (v:=?_) (a':=?_) #[true,true,true,true,false,false,false,false,false,false,false,false,false,false] rfl rfl (by kernel_rfl) (fun _ _ _ h=>h) (Or.inl ⟨by rfl,?_⟩) ?_ ?_;rotate_left
  ·intro w';go_simp;(with_reducible rfl)
  rotate_left
  ·simp only [Act.put,zP,zQ,zR,i64_w,i32_w];rfl
  refine pure_ (i:=4) (N:=(some 28)) (v:=?_) (a':=?_) #[true,true,true,true,true,false,false,false,false,false,false,false,false,false] rfl rfl (by kernel_rfl) (fun _ _ _ h=>h) (Or.inl ⟨by rfl,?_⟩) ?_ ?_;rotate_left
  ·intro w';go_simp;(with_reducible rfl)
  rotate_left
  ·simp only [Act.put,zP,zQ,zR,i64_w,i32_w];rfl
  refine pure_ (i:=5) (N:=(some 29)) (v:=?_) (a':=?_) #[true,true,true,true,true,true,false,false,false,false,false,false,false,false] rfl rfl (by kernel_rfl) (fun _ _ _ h=>h) (Or.inl ⟨by rfl,?_⟩) ?_ ?_;rotate_left
  ·intro w';go_simp;(with_reducible rfl)
  rotate_left
  ·simp only [Act.put,zP,zQ,zR,i64_w,i32_w];rfl
  refine pure_ (i:=6) (N:=(some 30)) (v:=?_) (a':=?_) #[true,true,true,true,true,true,true,false,false,false,false,false,false,false] rfl rfl (by kernel_rfl) (fun _ _ _ h=>h) (Or.inl ⟨by rfl,?_⟩) ?_ ?_;rotate_left
  ·intro w';go_simp;(with_reducible rfl)
  rotate_left
  ·simp only [Act.put,zP,zQ,zR,i64_w,i32_w];rfl
  refine take_ (i:=7) (N:=(some 31)) (v:=(.int .i64 s_.cols)) (a':=?_) #[true,true,true,true,true,true,true,true,false,false,false,false,false,false] rfl rfl (by kernel_rfl) (fun _ _ _ h=>h) (Or.inl ⟨by rfl,?_⟩) hHeld ?_ ?_
  ·rintro w' hs0_
   exact bx_yields hs0_ rfl rfl Try.underlying3 rfl (Scr.get_cols s_)
  rotate_left
  ·simp only [Act.put,zP,zQ,zR,i64_w,i32_w];rfl
  refine pure_ (i:=8) (N:=(some 32)) (v:=?_) (a':=?_) #[true,true,true,true,true,true,true,true,true,false,false,false,false,false] rfl rfl (by kernel_rfl) (fun _ _ _ h=>h) (Or.inl ⟨by rfl,?_⟩) ?_ ?_;rotate_left
  ·intro w';go_simp;(with_reducible rfl)
  rotate_left
  ·simp only [Act.put,zP,zQ,zR,i64_w,i32_w];rfl
  refine pure_ (i:=9) (N:=(some 33)) (v:=?_) (a':=?_) #[true,true,true,true,true,true,true,true,true,true,false,false,false,false] rfl rfl (by kernel_rfl) (fun _ _ _ h=>h) (Or.inl ⟨by rfl,?_⟩) ?_ ?_;rotate_left
  ·intro w';go_simp;(with_reducible rfl)
  rotate_left
  ·simp only [Act.put,zP,zQ,zR,i64_w,i32_w];rfl
  refine pure_ (i:=10) (N:=(some 34)) (v:=?_) (a':=?_) #[true,true,true,true,true,true,true,true,true,true,true,false,false,false] rfl rfl (by kernel_rfl) (fun _ _ _ h=>h) (Or.inl ⟨by rfl,?_⟩) ?_ ?_;rotate_left
  ·intro w';go_simp;(with_reducible rfl)
  rotate_left
  ·simp only [Act.put,zP,zQ,zR,i64_w,i32_w];rfl
  refine pure_ (i:=11) (N:=(some 35)) (v:=?_) (a':=?_) #[true,true,true,true,true,true,true,true,true,true,true,true,false,false] rfl rfl (by kernel_rfl) (fun _ _ _ h=>h) (Or.inl ⟨by rfl,?_⟩) ?_ ?_;rotate_left
  ·intro w';go_simp;(with_reducible rfl)
  rotate_left
  ·simp only [Act.put,zP,zQ,zR,i64_w,i32_w];rfl
  refine pure_ (i:=12) (N:=(some 10)) (v:=?_) (a':=?_) #[true,true,true,true,true,true,true,true,true,true,true,true,true,false] rfl rfl (by kernel_rfl) (fun _ _ _ h=>h) (Or.inl ⟨by rfl,?_⟩) ?_ ?_;rotate_left
  ·intro w';go_simp;(with_reducible rfl)
  rotate_left
  ·simp only [Act.put,zP,zQ,zR,i64_w,i32_w];rfl
  refine pure_ (i:=13) (N:=(some 11)) (v:=?_) (a':=?_) #[true,true,true,true,true,true,true,true,true,true,true,true,true,true] rfl rfl (by kernel_rfl) (fun _ _ _ h=>h) (Or.inl ⟨by rfl,?_⟩) ?_ ?_;rotate_left
  ·intro w';go_simp;(with_reducible rfl)
  rotate_left
  ·simp only [Act.put,zP,zQ,zR,i64_w,i32_w];rfl
  refine done_ (by kernel_rfl) ?_;clear HI w1 w2 w3 w4 hHeld;(try clear hxc hxr hxk);have hxc:=(zB _ _ _ _ _ _ BX9.out.bx).trans (Scr.get_c _);have hxr:=(zB _ _ _ _ _ _ BX9.out.bx).trans (Scr.get_rows _);have hxk:=(zB _ _ _ _ _ _ BX9.out.bx).trans (Scr.get_cols _);rw [hrw] at hxr;rw [hcl] at hxk;go_upto_region 8 with (first|((with_reducible refine zG (N:=44) rfl ?_);refine goesL_ (some 44) rfl rfl Try.func14 (by kernel_rfl) rfl _ rfl rfl ?_;(try simp only [zS,zT,zU]);have e_:=gsize_call (c:=s_.c) HC.out hlen.out hR1.out hC1.out hR2.out hC2.out;refine Calls.mono e_ ?_;clear e_ hxc hxr hxk;rintro e w44 ⟨u1,rfl,NU0,hb⟩;have H1:=zA (mvRow.new (ok:=fun k=>k < w.heap.size) (n:=w.heap.size) (gs:=[g9]) NU0 HB.out.size (by simp only [zW,List.not_mem_nil,or_false];rintro g_ hg_;rcases hg_ with rfl <;> first|exact BX9.out.lt));clear NU0;replace BX9:=zA (zM BX9.out hb);replace HC:=zA (mvRow.call HC.out hb);(try replace H1:=zA (mvRow.call H1.out hb));(try replace H2:=zA (mvRow.call H2.out hb));(try replace H3:=zA (mvRow.call H3.out hb));replace HB:=zA (zJ HB.out HB.out.size hb);clear hb;refine ⟨_,rfl,?_⟩))
  (try clear hxc hxr hxk);have hxc:=(zB _ _ _ _ _ _ BX9.out.bx).trans (Scr.get_c _);have hxr:=(zB _ _ _ _ _ _ BX9.out.bx).trans (Scr.get_rows _);have hxk:=(zB _ _ _ _ _ _ BX9.out.bx).trans (Scr.get_cols _);rw [hrw] at hxr;rw [hcl] at hxk;go_upto_region 9 with (fail)
  have e_:=gsize_call (c:=u1) H1.out szl1.out hR2.out hC2.out hR1.out hC1.out;refine Calls.mono e_ ?_;clear e_ hxc hxr hxk;rintro e w52 ⟨u2,rfl,NU0,hb⟩
  rw [hmn2.out,hmn.out,size_back hC1.out.1 hGr.out hlen.out hRR.out hCC.out] at NU0;have H2:=zA (mvRow.new (ok:=fun k=>k < w.heap.size) (n:=w.heap.size) (gs:=[g9]) NU0 HB.out.size (by simp only [zW,List.not_mem_nil,or_false];rintro g_ hg_;rcases hg_ with rfl <;> first|exact BX9.out.lt));clear NU0;replace BX9:=zA (zM BX9.out hb);replace HC:=zA (mvRow.call HC.out hb);(try replace H1:=zA (mvRow.call H1.out hb));(try replace H2:=zA (mvRow.call H2.out hb));(try replace H3:=zA (mvRow.call H3.out hb));replace HB:=zA (zJ HB.out HB.out.size hb);clear hb;have hu1:=Row_n H1.out szl1.out;rw [← hm'.out] at hu1;go_upto_region 9 with (fail)
  (try clear hxc hxr hxk);have hb : Below w52.heap.size w52 w52.drew:=(zE _ _).drew;replace BX9:=zA (zM BX9.out hb);(try replace HC:=zA (mvRow.call HC.out hb));(try replace H1:=zA (mvRow.call H1.out hb));(try replace H2:=zA (mvRow.call H2.out hb));replace HB:=zA (zJ HB.out HB.out.size hb);clear hb;refine start_ (n:=29) (S:=fun w'=>w'.heap[g9]? = some (.cells s_.cs 31 (0,0))) (ds:=[]) #[false,false,false,false,false,false,false,false,false,false,false,false,false,false,false,false,false,false,false,false,false,false,false,false,false,false,false,false,false] (by kernel_rfl) rfl rfl BX9.out.bx (fun hHeld=>?_);generalize World.drew w52 = wD at HB BX9 HC H1 H2 hHeld ⊢;refine pure_ (i:=0) (N:=(some 53)) (v:=?_) (a':=?_) #[true,false,false,false,false,false,false,false,false,false,false,false,false,false,false,false,false,false,false,false,false,false,false,false,false,false,false,false,false] rfl rfl (by kernel_rfl) (fun _ _ _ h=>h) (Or.inl ⟨by rfl,?_⟩) ?_ ?_;rotate_left
  ·intro w';go_simp;(with_reducible rfl)
  rotate_left
  ·simp only [Act.put,zP,zQ,zR,i64_w,i32_w];rfl
  refine pure_ (i:=1) (N:=(some 54)) (v:=?_) (a':=?_) #[true,true,false,false,false,false,false,false,false,false,false,false,false,false,false,false,false,false,false,false,false,false,false,false,false,false,false,false,false] rfl rfl (by kernel_rfl) (fun _ _ _ h=>h) (Or.inl ⟨by rfl,?_⟩) ?_ ?_;rotate_left
  ·intro w';go_simp;(with_reducible rfl)
  rotate_left
  ·simp only [Act.put,zP,zQ,zR,i64_w,i32_w];rfl
  refine pure_ (i:=2) (N:=(some 55)) (v:=?_) (a':=?_) #[true,true,true,false,false,false,false,false,false,false,false,false,false,false,false,false,false,false,false,false,false,false,false,false,false,false,false,false,false] rfl rfl (by kernel_rfl) (fun _ _ _ h=>h) (Or.inl ⟨by rfl,?_⟩) ?_ ?_;rotate_left
  ·intro w';go_simp;(with_reducible rfl)
  rotate_left
  ·simp only [Act.put,zP,zQ,zR,i64_w,i32_w];rfl
  refine pure_ (i:=3) (N:=(some 56)) (v:=?_) (a':=?_) #[true,true,true,true,false,false,false,false,false,false,false,false,false,false,false,false,false,false,false,false,false,false,false,false,false,false,false,false,false] rfl rfl (by kernel_rfl) (fun _ _ _ h=>h) (Or.inl ⟨by rfl,?_⟩) ?_ ?_;rotate_left
  ·intro w';go_simp;(with_reducible rfl)
  rotate_left
  ·simp only [Act.put,zP,zQ,zR,i64_w,i32_w];rfl
  refine pure_ (i:=4) (N:=(some 57)) (v:=?_) (a':=?_) #[true,true,true,true,true,false,false,false,false,false,false,false,false,false,false,false,false,false,false,false,false,false,false,false,false,false,false,false,false] rfl rfl (by kernel_rfl) (fun _ _ _ h=>h) (Or.inl ⟨by rfl,?_⟩) ?_ ?_;rotate_left
  ·intro w';go_simp;(with_reducible rfl)
  rotate_left
  ·simp only [Act.put,zP,zQ,zR,i64_w,i32_w];rfl
  refine pure_ (i:=5) (N:=(some 58)) (v:=?_) (a':=?_) #[true,true,true,true,true,true,false,false,false,false,false,false,false,false,false,false,false,false,false,false,false,false,false,false,false,false,false,false,false] rfl rfl (by kernel_rfl) (fun _ _ _ h=>h) (Or.inl ⟨by rfl,?_⟩) ?_ ?_;rotate_left
  ·intro w';go_simp;(with_reducible rfl)
  rotate_left
  ·simp only [Act.put,zP,zQ,zR,i64_w,i32_w];rfl
  refine pure_ (i:=6) (N:=(some 59)) (v:=?_) (a':=?_) #[true,true,true,true,true,true,true,false,false,false,false,false,false,false,false,false,false,false,false,false,false,false,false,false,false,false,false,false,false] rfl rfl (by kernel_rfl) (fun _ _ _ h=>h) (Or.inl ⟨by rfl,?_⟩) ?_ ?_;rotate_left
  ·intro w';go_simp;(with_reducible rfl)
  rotate_left
  ·simp only [Act.put,zP,zQ,zR,i64_w,i32_w];rfl
  refine pure_ (i:=7) (N:=(some 60)) (v:=?_) (a':=?_) #[true,true,true,true,true,true,true,true,false,false,false,false,false,false,false,false,false,false,false,false,false,false,false,false,false,false,false,false,false] rfl rfl (by kernel_rfl) (fun _ _ _ h=>h) (Or.inl ⟨by rfl,?_⟩) ?_ ?_;rotate_left
  ·intro w';go_simp;(with_reducible rfl)
  rotate_left
  ·simp only [Act.put,zP,zQ,zR,i64_w,i32_w];rfl
  refine pure_ (i:=8) (N:=(some 61)) (v:=?_) (a':=?_) #[true,true,true,true,true,true,true,true,true,false,false,false,false,false,false,false,false,false,false,false,false,false,false,false,false,false,false,false,false] rfl rfl (by kernel_rfl) (fun _ _ _ h=>h) (Or.inl ⟨by rfl,?_⟩) ?_ ?_;rotate_left
  ·intro w';go_simp;(with_reducible rfl)
  rotate_left
  ·simp only [Act.put,zP,zQ,zR,i64_w,i32_w];rfl
  refine take_ (i:=9) (N:=(some 62)) (v:=(.slice s_.c.A s_.c.n s_.c.c)) (a':=?_) #[true,true,true,true,true,true,true,true,true,true,false,false,false,false,false,false,false,false,false,false,false,false,false,false,false,false,false,false,false] rfl rfl (by kernel_rfl) (fun _ _ _ h=>h) (Or.inl ⟨by rfl,?_⟩) hHeld ?_ ?_
  ·rintro w' hs0_
   exact bx_yields hs0_ rfl rfl Try.underlying24 rfl (Scr.get_c s_)
  rotate_left
  ·simp only [Act.put,zP,zQ,zR,i64_w,i32_w];rfl
  refine one_ (i:=10) (N:=(some 63)) #[true,true,true,true,true,true,true,true,true,true,true,false,false,false,false,false,false,false,false,false,false,false,false,false,false,false,false,false,false] rfl rfl (by kernel_rfl) (by decide) (fun K hK=>?_);refine goes_ Try.func15 (by kernel_rfl) rfl _ (by rfl) rfl rfl rfl ?_;(try simp only [zS,zT,zU]);(try rw [hrw]);(try rw [hcl]);have e_:=same_call (q:=u2) (c:=s_.c) H2.out HC.out hl6.out;refine Calls.mono e_ ?_;clear e_;rintro e w9_15 ⟨rfl,hb⟩
  refine ⟨_,rfl,?_⟩;replace BX9:=zA (zM BX9.out hb);replace HC:=zA (mvRow.call HC.out hb);replace H1:=zA (mvRow.call H1.out hb);replace H2:=zA (mvRow.call H2.out hb);(try replace H3:=zA (mvRow.call H3.out hb));replace HB:=zA (zJ HB.out HB.out.size hb);clear hb;refine hK.out _ _ BX9.out.bx (fun hHeld=>?_);clear hK K;refine norm_ (a':=?_) ?_ ?_;rotate_left
  ·show Act.put _ (some 63) _ = _
   simp only [Act.put,zP,zQ,zR,i64_w,i32_w];rfl
  refine pure_ (i:=11) (N:=(some 64)) (v:=?_) (a':=?_) #[true,true,true,true,true,true,true,true,true,true,true,true,false,false,false,false,false,false,false,false,false,false,false,false,false,false,false,false,false] rfl rfl (by kernel_rfl) (fun _ _ _ h=>h) (Or.inl ⟨by rfl,?_⟩) ?_ ?_;rotate_left
  ·intro w';go_simp;(with_reducible rfl)
  rotate_left
  ·simp only [Act.put,zP,zQ,zR,i64_w,i32_w];rfl
  refine pure_ (i:=12) (N:=(some 65)) (v:=?_) (a':=?_) #[true,true,true,true,true,true,true,true,true,true,true,true,true,false,false,false,false,false,false,false,false,false,false,false,false,false,false,false,false] rfl rfl (by kernel_rfl) (fun _ _ _ h=>h) (Or.inl ⟨by rfl,?_⟩) ?_ ?_;rotate_left
  ·intro w';go_simp;(with_reducible rfl)
  rotate_left
  ·simp only [Act.put,zP,zQ,zR,i64_w,i32_w];rfl
  refine pure_ (i:=13) (N:=(some 66)) (v:=?_) (a':=?_) #[true,true,true,true,true,true,true,true,true,true,true,true,true,true,false,false,false,false,false,false,false,false,false,false,false,false,false,false,false] rfl rfl (by kernel_rfl) (fun _ _ _ h=>h) (Or.inl ⟨by rfl,?_⟩) ?_ ?_;rotate_left
  ·intro w';go_simp;(with_reducible rfl)
  rotate_left
  ·simp only [Act.put,zP,zQ,zR,i64_w,i32_w];rfl
  refine take_ (i:=14) (N:=(some 67)) (v:=(.slice s_.c.A s_.c.n s_.c.c)) (a':=?_) #[true,true,true,true,true,true,true,true,true,true,true,true,true,true,true,false,false,false,false,false,false,false,false,false,false,false,false,false,false] rfl rfl (by kernel_rfl) (fun _ _ _ h=>h) (Or.inl ⟨by rfl,?_⟩) hHeld ?_ ?_
  ·rintro w' hs0_
   exact bx_yields hs0_ rfl rfl Try.underlying24 rfl (Scr.get_c s_)
  rotate_left
  ·simp only [Act.put,zP,zQ,zR,i64_w,i32_w];rfl
  refine pure_ (i:=15) (N:=(some 68)) (v:=?_) (a':=?_) #[true,true,true,true,true,true,true,true,true,true,true,true,true,true,true,true,false,false,false,false,false,false,false,false,false,false,false,false,false] rfl rfl (by kernel_rfl) (fun _ _ _ h=>h) (Or.inl ⟨by rfl,?_⟩) ?_ ?_;rotate_left
  ·intro w';go_simp;(with_reducible rfl)
  rotate_left
  ·simp only [Act.put,zP,zQ,zR,i64_w,i32_w];rfl
  refine take_ (i:=16) (N:=(some 69)) (v:=(.int .i64 s_.rows)) (a':=?_) #[true,true,true,true,true,true,true,true,true,true,true,true,true,true,true,true,true,false,false,false,false,false,false,false,false,false,false,false,false] rfl rfl (by kernel_rfl) (fun _ _ _ h=>h) (Or.inl ⟨by rfl,?_⟩) hHeld ?_ ?_
  ·rintro w' hs0_
   exact bx_yields hs0_ rfl rfl Try.underlying3 rfl (Scr.get_rows s_)
  rotate_left
  ·simp only [Act.put,zP,zQ,zR,i64_w,i32_w];rfl
  refine pure_ (i:=17) (N:=(some 70)) (v:=?_) (a':=?_) #[true,true,true,true,true,true,true,true,true,true,true,true,true,true,true,true,true,true,false,false,false,false,false,false,false,false,false,false,false] rfl rfl (by kernel_rfl) (fun _ _ _ h=>h) (Or.inl ⟨by rfl,?_⟩) ?_ ?_;rotate_left
  ·intro w';go_simp;(with_reducible rfl)
  rotate_left
  ·simp only [Act.put,zP,zQ,zR,i64_w,i32_w];rfl
  refine take_ (i:=18) (N:=(some 71)) (v:=(.int .i64 s_.cols)) (a':=?_) #[true,true,true,true,true,true,true,true,true,true,true,true,true,true,true,true,true,true,true,false,false,false,false,false,false,false,false,false,false] rfl rfl (by kernel_rfl) (fun _ _ _ h=>h) (Or.inl ⟨by rfl,?_⟩) hHeld ?_ ?_
  ·rintro w' hs0_
   exact bx_yields hs0_ rfl rfl Try.underlying3 rfl (Scr.get_cols s_)
  rotate_left
  ·simp only [Act.put,zP,zQ,zR,i64_w,i32_w];rfl
  refine pure_ (i:=19) (N:=(some 72)) (v:=?_) (a':=?_) #[true,true,true,true,true,true,true,true,true,true,true,true,true,true,true,true,true,true,true,true,false,false,false,false,false,false,false,false,false] rfl rfl (by kernel_rfl) (fun _ _ _ h=>h) (Or.inl ⟨by rfl,?_⟩) ?_ ?_;rotate_left
  ·intro w';go_simp;(with_reducible rfl)
  rotate_left
  ·simp only [Act.put,zP,zQ,zR,i64_w,i32_w];rfl
  refine take_ (i:=20) (N:=(some 73)) (v:=(.int .i64 s_.rows)) (a':=?_) #[true,true,true,true,true,true,true,true,true,true,true,true,true,true,true,true,true,true,true,true,true,false,false,false,false,false,false,false,false] rfl rfl (by kernel_rfl) (fun _ _ _ h=>h) (Or.inl ⟨by rfl,?_⟩) hHeld ?_ ?_
  ·rintro w' hs0_
   exact bx_yields hs0_ rfl rfl Try.underlying3 rfl (Scr.get_rows s_)
  rotate_left
  ·simp only [Act.put,zP,zQ,zR,i64_w,i32_w];rfl
  refine pure_ (i:=21) (N:=(some 74)) (v:=?_) (a':=?_) #[true,true,true,true,true,true,true,true,true,true,true,true,true,true,true,true,true,true,true,true,true,true,false,false,false,false,false,false,false] rfl rfl (by kernel_rfl) (fun _ _ _ h=>h) (Or.inl ⟨by rfl,?_⟩) ?_ ?_;rotate_left
  ·intro w';go_simp;(with_reducible rfl)
  rotate_left
  ·simp only [Act.put,zP,zQ,zR,i64_w,i32_w];rfl
  refine take_ (i:=22) (N:=(some 75)) (v:=(.int .i64 s_.cols)) (a':=?_) #[true,true,true,true,true,true,true,true,true,true,true,true,true,true,true,true,true,true,true,true,true,true,true,false,false,false,false,false,false] rfl rfl (by kernel_rfl) (fun _ _ _ h=>h) (Or.inl ⟨by rfl,?_⟩) hHeld ?_ ?_
  ·rintro w' hs0_
   exact bx_yields hs0_ rfl rfl Try.underlying3 rfl (Scr.get_cols s_)
  rotate_left
  ·simp only [Act.put,zP,zQ,zR,i64_w,i32_w];rfl
  refine pure_ (i:=24) (N:=(some 77)) (v:=?_) (a':=?_) #[true,true,true,true,true,true,true,true,true,true,true,true,true,true,true,true,true,true,true,true,true,true,true,false,true,false,false,false,false] rfl rfl (by kernel_rfl) (fun _ _ _ h=>h) (Or.inl ⟨by rfl,?_⟩) ?_ ?_;rotate_left
  ·intro w';go_simp;(with_reducible rfl)
  rotate_left
  ·simp only [Act.put,zP,zQ,zR,i64_w,i32_w];rfl
  refine take_ (i:=25) (N:=(some 78)) (v:=(.slice s_.c.A s_.c.n s_.c.c)) (a':=?_) #[true,true,true,true,true,true,true,true,true,true,true,true,true,true,true,true,true,true,true,true,true,true,true,false,true,true,false,false,false] rfl rfl (by kernel_rfl) (fun _ _ _ h=>h) (Or.inl ⟨by rfl,?_⟩) hHeld ?_ ?_
  ·rintro w' hs0_
   exact bx_yields hs0_ rfl rfl Try.underlying24 rfl (Scr.get_c s_)
  rotate_left
  ·simp only [Act.put,zP,zQ,zR,i64_w,i32_w];rfl
  refine one_ (i:=23) (N:=(some 76)) #[true,true,true,true,true,true,true,true,true,true,true,true,true,true,true,true,true,true,true,true,true,true,true,true,true,true,false,false,false] rfl rfl (by kernel_rfl) (by decide) (fun K hK=>?_);refine goes_ Try.func14 (by kernel_rfl) rfl _ (by rfl) rfl rfl rfl ?_;(try simp only [zS,zT,zU]);(try rw [hrw]);(try rw [hcl]);have e_:=gsize_call (c:=s_.c) HC.out hlen.out hR1.out hC1.out hR1.out hC1.out;refine Calls.mono e_ ?_;clear e_;rintro e w9_14 ⟨u3,rfl,NU0,hb⟩
  refine ⟨_,rfl,?_⟩;rw [Nat.min_self,size_same hC1.out.1 hGr.out hlen.out] at NU0;have H3:=zA (mvRow.new (ok:=fun k=>k < w.heap.size) (n:=w.heap.size) (gs:=[g9]) NU0 HB.out.size (by simp only [zW,List.not_mem_nil,or_false];rintro g_ hg_;rcases hg_ with rfl <;> first|exact BX9.out.lt));clear NU0;replace BX9:=zA (zM BX9.out hb);replace HC:=zA (mvRow.call HC.out hb);replace H1:=zA (mvRow.call H1.out hb);replace H2:=zA (mvRow.call H2.out hb);(try replace H3:=zA (mvRow.call H3.out hb));replace HB:=zA (zJ HB.out HB.out.size hb);clear hb;refine hK.out _ _ BX9.out.bx (fun hHeld=>?_);clear hK K;refine norm_ (a':=?_) ?_ ?_;rotate_left
  ·show Act.put _ (some 76) _ = _
   simp only [Act.put,zP,zQ,zR,i64_w,i32_w];rfl
  refine one_ (i:=26) (N:=(some 79)) #[true,true,true,true,true,true,true,true,true,true,true,true,true,true,true,true,true,true,true,true,true,true,true,true,true,true,true,false,false] rfl rfl (by kernel_rfl) (by decide) (fun K hK=>?_);refine goes_ Try.func15 (by kernel_rfl) rfl _ (by rfl) rfl rfl rfl ?_;(try simp only [zS,zT,zU]);(try rw [hrw]);(try rw [hcl]);have e_:=same_call (q:=u3) (c:=s_.c) H3.out HC.out hl6.out;refine Calls.mono e_ ?_;clear e_;rintro e w9_15 ⟨rfl,hb⟩
  refine ⟨_,rfl,?_⟩;replace BX9:=zA (zM BX9.out hb);replace HC:=zA (mvRow.call HC.out hb);replace H1:=zA (mvRow.call H1.out hb);replace H2:=zA (mvRow.call H2.out hb);(try replace H3:=zA (mvRow.call H3.out hb));replace HB:=zA (zJ HB.out HB.out.size hb);clear hb;refine hK.out _ _ BX9.out.bx (fun hHeld=>?_);clear hK K;refine norm_ (a':=?_) ?_ ?_;rotate_left
  ·show Act.put _ (some 79) _ = _
   simp only [Act.put,zP,zQ,zR,i64_w,i32_w];rfl
  refine pure_ (i:=27) (N:=(some 80)) (v:=?_) (a':=?_) #[true,true,true,true,true,true,true,true,true,true,true,true,true,true,true,true,true,true,true,true,true,true,true,true,true,true,true,true,false] rfl rfl (by kernel_rfl) (fun _ _ _ h=>h) (Or.inl ⟨by rfl,?_⟩) ?_ ?_;rotate_left
  ·intro w';go_simp;(with_reducible rfl)
  rotate_left
  ·simp only [Act.put,zP,zQ,zR,i64_w,i32_w];rfl
  refine pure_ (i:=28) (N:=(some 8)) (v:=?_) (a':=?_) #[true,true,true,true,true,true,true,true,true,true,true,true,true,true,true,true,true,true,true,true,true,true,true,true,true,true,true,true,true] rfl rfl (by kernel_rfl) (fun _ _ _ h=>h) (Or.inl ⟨by rfl,?_⟩) ?_ ?_;rotate_left
  ·intro w';go_simp;(with_reducible rfl)
  rotate_left
  ·simp only [Act.put,zP,zQ,zR,i64_w,i32_w];rfl
  refine done_ (by kernel_rfl) ?_;go_wp2_with (fail);go_ret;exact ⟨rfl,HB.out⟩
end Go.Proofs.Ytooageeehallbaa.Scr
