/- Parts of the claim's proof, merged; no condition beyond what each theorem states. -/
import Derived.Test.YtooageeehallbaaG8
import Derived.Test.YtooageeehallbaaG9
import Derived.Test.YtooageeehallbaaWMore
import Derived.Test.YtooageeehallbaaWLast
import Derived.Lib.ConvBytes
import Derived.Laws.AppendOwn
import Derived.Lib.AppendStr
import Derived.Test.YtooageeehallbaaG1
import Derived.Test.YtooageeehallbaaG7
import Derived.Laws.BitsAllLaws
import Derived.RowKit
import Derived.Laws.BytesArg
import Derived.Lib.Bytes
import Derived.Test.YtooageeehallbaaG6
namespace Go.Proofs.Ytooageeehallbaa.Scr
open Go.RowKit Go.Proofs.YtooageeehallbaaW.PrintWords Go.Proofs.YtooageeehallbaaW.PrintLast Go.Proofs.YtooageeehallbaaW.PrintMore Go.Proofs.Ytooageeehallbaa.QRunsCut
attribute [local go_sem] max2_int min2_int max_two min_two max_three min_three max_four min_four 
set_option linter.unusedVariables false
set_option linter.unusedSimpArgs false
set_option maxHeartbeats 20000000 in
set_option maxRecDepth 100000 in
theorem feed_inv {ok : Nat → Prop} {rows cols : Int} (s : Scr) (bl : Sl) (w : World) (h : Inv rows cols s w ok) (hl : Row (Kd.int .u8) bl Bytes8 w ok) :
 Calls Try.prog 37 #[.agg s.cs,.slice bl.A bl.n bl.c] w (Post rows cols w ok):=by
 have HB:=zA (zE w.heap.size w);have hp:=h;obtain ⟨hr_,hc_⟩:=And.intro h.hrows h.hcols;subst hr_ hc_;have HI:=zA (mvInv.enter h rfl);clear h;have HL:=zA (mvRow.enter hl (n:=w.heap.size) rfl);replace hp:=zA hp;clear hl;go_enter Try.func37,Try.ntmps37
 go_wp2_with (first|((with_reducible refine zG (N:=2) rfl ?_);refine bx_box (t:=31) (n:=w.heap.size) rfl rfl rfl rfl HB.out.size ?_;intro g2 w2 hN hg bx;replace HB:=zA (zL HB.out HB.out.size hg);replace HI:=zA (mvInv.fresh HI.out hN hg);replace HL:=zA (mvRow.fresh HL.out hN hg);have BX2:=zA bx;clear hN hg bx)|((with_reducible refine zG (N:=4) rfl ?_);refine bx_alloc (t:=31) (n:=w.heap.size) (cs:=Scr.zero.cs) rfl rfl rfl Scr.infoz HB.out.size ?_;intro g4 w4 hN hg bx;replace HB:=zA (zL HB.out HB.out.size hg);have NE2_4:=zA (show g2 ≠ g4 from by have:=BX2.out.lt;omega);have NE4_2:=zA (Ne.symm NE2_4.out);replace BX2:=zA (zO BX2.out hg);replace HI:=zA (mvInv.fresh HI.out hN hg);replace HL:=zA (mvRow.fresh HL.out hN hg);have BX4:=zA bx;clear hN hg bx));go_loopg [5] (bl.n) (fun kq v5 wr=>∃ (i : Int) (s1 : Scr),v5 = .int .i64 i∧Aside0 (kq = ((bl.n : Int) - i).toNat∧0 ≤ i∧i ≤ (bl.n : Int))∧Aside0 (Below w.heap.size w wr)∧Aside0 (Bx w.heap.size 31 g2 wr s1.cs)∧Aside0 (Bx w.heap.size 31 g4 wr Scr.zero.cs)∧Aside0 (Inv s.rows s.cols s1 wr (Nb ok w.heap.size [g4,g2]))∧Aside0 (Row (Kd.int .u8) bl Bytes8 wr (Nb ok w.heap.size [g4,g2])))
 case atStart=>exact ⟨0,s,rfl,⟨by omega,by decide,by omega⟩,HB,BX2,BX4,HI,HL⟩
 case round =>
  clear HB BX2 BX4 HI HL;obtain ⟨i,s1,rfl,HK,HB,BX2,BX4,HI,HL⟩:=hrel;obtain ⟨ll,hP,hn,hcl,hC⟩:=Row.reads HL.out;have p5:=eq_true HK.out.2.1;by_cases hlt : i < (bl.n : Int)
  ·have p6:=eq_true hlt;obtain ⟨adL,eL,hxE⟩:=Kd.at_int hC i HK.out.2.1 (by omega);have hby : Aside0 (0 ≤ rd ll i∧rd ll i ≤ 255):=⟨by
    have h0:=HK.out.2.1;unfold rd;rw [List.getD_eq_getElem?_getD,List.getElem?_eq_getElem (by omega)];exact hP _ (List.getElem_mem _)⟩
   have ei : Aside0 (wrap64 (i + 1) = i + 1):=⟨by have h1:=HK.out;have h2:=Kd.C_max hC;unfold wrap64;omega⟩;clear hC hP;replace hn:=zA hn;replace hcl:=zA hcl;clear hlt;have eL_:=zA eL;clear eL;go_upto_region 4 with (fail)
   go_cut [6,7] (fun v6 v7 wc=>∃ (g6 : Nat) (p_ : Par) (al_ : Sl),v6 = .pointer (some ⟨g6,0,none⟩)∧v7 = .slice al_.A al_.n al_.c∧Aside0 (g2 ≠ g6)∧Aside0 (g4 ≠ g6)∧Aside0 (Below w.heap.size w wc)∧Aside0 (Bx w.heap.size 31 g2 wc s1.cs)∧Aside0 (Bx w.heap.size 31 g4 wc Scr.zero.cs)∧Aside0 (Bx w.heap.size 29 g6 wc p_.cs)∧Aside0 (Inv s.rows s.cols s1 wc (Nb ok w.heap.size [g6,g4,g2]))∧Aside0 (Row (Kd.int .u8) bl Bytes8 wc (Nb ok w.heap.size [g6,g4,g2]))∧Aside0 (ParIn p_ wc (Nb ok w.heap.size [g6,g4,g2]))∧Aside0 (Acts 3 al_ wc (Nb ok w.heap.size [g6,g4,g2])))
   case first =>
    have eL:=eL_.out;have hb : Below wr.heap.size wr wr.drew:=(zE _ _).drew;replace BX2:=zA (zM BX2.out hb);replace BX4:=zA (zM BX4.out hb);replace HI:=zA (mvInv.call HI.out hb);replace HL:=zA (mvRow.call HL.out hb);replace HB:=zA (zJ HB.out HB.out.size hb);clear hb;refine start_ (n:=13) (S:=fun w'=>w'.heap[g2]? = some (.cells s1.cs 31 (0,0))∧w'.cell? (adL.add i.toNat) = some (.int .u8 (rd ll i))) (ds:=[11]) #[false,false,false,false,false,false,false,false,false,false,false,false,false] (by kernel_rfl) rfl rfl ⟨BX2.out.bx,hxE⟩ (fun hHeld=>?_);generalize World.drew wr = wD at HB BX2 BX4 HI HL hHeld ⊢;refine pure_ (i:=0) (N:=(some 16)) (v:=?_) (a':=?_) #[true,false,false,false,false,false,false,false,false,false,false,false,false] rfl rfl (by kernel_rfl) (fun _ _ _ h=>h) (Or.inl ⟨by rfl,?_⟩) ?_ ?_;rotate_left
    ·intro w';go_simp;(with_reducible rfl)
    rotate_left
    ·simp only [Act.put,zP,zQ,zR,i64_w,i32_w];rfl
    refine pure_ (i:=2) (N:=(some 18)) (v:=?_) (a':=?_) #[true,false,true,false,false,false,false,false,false,false,false,false,false] rfl rfl (by kernel_rfl) (fun _ _ _ h=>h) (Or.inl ⟨by rfl,?_⟩) ?_ ?_;rotate_left
    ·intro w';go_simp;(with_reducible rfl)
    rotate_left
    ·simp only [Act.put,zP,zQ,zR,i64_w,i32_w];rfl
    refine pure_ (i:=3) (N:=(some 19)) (v:=?_) (a':=?_) #[true,false,true,true,false,false,false,false,false,false,false,false,false] rfl rfl (by kernel_rfl) (fun _ _ _ h=>h) (Or.inl ⟨by rfl,?_⟩) ?_ ?_;rotate_left
    ·intro w';go_simp;(with_reducible rfl)
    rotate_left
    ·simp only [Act.put,zP,zQ,zR,i64_w,i32_w];rfl
    refine pure_ (i:=4) (N:=(some 20)) (v:=?_) (a':=?_) #[true,false,true,true,true,false,false,false,false,false,false,false,false] rfl rfl (by kernel_rfl) (fun _ _ _ h=>h) (Or.inl ⟨by rfl,?_⟩) ?_ ?_;rotate_left
    ·intro w';go_simp;(with_reducible rfl)
    rotate_left
    ·simp only [Act.put,zP,zQ,zR,i64_w,i32_w];rfl
    refine take_ (i:=1) (N:=(some 17)) (v:=(.agg s1.par.cs)) (a':=?_) #[true,true,true,true,true,false,false,false,false,false,false,false,false] rfl rfl (by kernel_rfl) (fun _ _ _ h=>h) (Or.inl ⟨by rfl,?_⟩) hHeld ?_ ?_
    ·rintro w' ⟨hs0_,hs1_⟩
     exact par_yields hs0_ rfl rfl
    rotate_left
    ·simp only [Act.put,zP,zQ,zR,i64_w,i32_w];rfl
    refine take_ (i:=5) (N:=(some 21)) (v:=(.int .u8 (rd ll i))) (a':=?_) #[true,true,true,true,true,true,false,false,false,false,false,false,false] rfl rfl (by kernel_rfl) (fun _ _ _ h=>h) (Or.inl ⟨by rfl,?_⟩) hHeld ?_ ?_
    ·rintro w' ⟨hs0_,hs1_⟩
     (go_simp;done)
    rotate_left
    ·simp only [Act.put,zP,zQ,zR,i64_w,i32_w];rfl
    refine two_ (i:=6) (j:=10) (Ni:=(some 22)) (Nj:=(some 6)) #[true,true,true,true,true,true,true,false,false,false,false,false,false] #[true,true,true,true,true,true,false,false,false,false,true,false,false] rfl rfl rfl rfl (by kernel_rfl) (by decide) (by decide) (fun K hK=>?_) (fun K hK=>?_)
    ·refine goes_ Try.func55 (by kernel_rfl) rfl _ (by rfl) rfl rfl rfl ?_;(try simp only [zS,zT,zU]);refine Calls.mono (stepp_inv _ _ hby.out _ HI.out.p) ?_;rintro e w22 ⟨p_,al_,rfl,NP0,NA0,hb⟩
     refine ⟨_,rfl,?_⟩;((have NP:=zA (mvPar.back (ok:=ok) (n:=w.heap.size) (gs:=[g4,g2]) NP0 HB.out.size (by simp only [zW,List.not_mem_nil,or_false];rintro g_ hg_;rcases hg_ with rfl|rfl <;> first|exact BX4.out.lt|exact BX2.out.lt));have NA:=zA (mvRow.back (ok:=ok) (n:=w.heap.size) (gs:=[g4,g2]) NA0 HB.out.size (by simp only [zW,List.not_mem_nil,or_false];rintro g_ hg_;rcases hg_ with rfl|rfl <;> first|exact BX4.out.lt|exact BX2.out.lt))))
     clear NP0 NA0;have hxE2:=(hb.cell (World.block_lt_of_cell? _ _ hHeld.2)).trans hHeld.2;replace BX2:=zA (zM BX2.out hb);replace BX4:=zA (zM BX4.out hb);replace HI:=zA (mvInv.call HI.out hb);replace HL:=zA (mvRow.call HL.out hb);replace HB:=zA (zJ HB.out HB.out.size hb);clear hb;refine hK.out _ _ ⟨BX2.out.bx,hxE2⟩ (fun hHeld=>?_);clear hK K;refine norm_ (a':=?_) ?_ ?_;rotate_left
     ·show Act.put _ (some 22) _ = _
      simp only [Act.put,zP,zQ,zR,i64_w,i32_w];rfl
     refine pure_ (i:=7) (N:=(some 15)) (v:=?_) (a':=?_) #[true,true,true,true,true,true,true,true,false,false,false,false,false] rfl rfl (by kernel_rfl) (fun _ _ _ h=>h) (Or.inl ⟨by rfl,?_⟩) ?_ ?_;rotate_left
     ·intro w';go_simp;(with_reducible rfl)
     rotate_left
     ·simp only [Act.put,zP,zQ,zR,i64_w,i32_w];rfl
     refine pure_ (i:=8) (N:=(some 23)) (v:=?_) (a':=?_) #[true,true,true,true,true,true,true,true,true,false,false,false,false] rfl rfl (by kernel_rfl) (fun _ _ _ h=>h) (Or.inl ⟨by rfl,?_⟩) ?_ ?_;rotate_left
     ·intro w';go_simp;(with_reducible rfl)
     rotate_left
     ·simp only [Act.put,zP,zQ,zR,i64_w,i32_w];rfl
     refine pure_ (i:=9) (N:=(some 24)) (v:=?_) (a':=?_) #[true,true,true,true,true,true,true,true,true,true,false,false,false] rfl rfl (by kernel_rfl) (fun _ _ _ h=>h) (Or.inl ⟨by rfl,?_⟩) ?_ ?_;rotate_left
     ·intro w';go_simp;(with_reducible rfl)
     rotate_left
     ·simp only [Act.put,zP,zQ,zR,i64_w,i32_w];rfl
     refine one_ (i:=10) (N:=(some 6)) #[true,true,true,true,true,true,true,true,true,true,true,false,false] rfl rfl (by kernel_rfl) (by decide) (fun K hK=>?_);refine bx_alloc_if (t:=29) (n:=w.heap.size) (cs:=Par.zero.cs) (by rfl) rfl rfl Par.infoz HB.out.size ?_;intro g6 w6 hN hg bx;have hxE3:=(World.cell?_of_block (hg.block _ (World.block_lt_of_cell? _ _ hHeld.2) (by simp))).trans hHeld.2;replace HB:=zA (zL HB.out HB.out.size hg);have NE2_6:=zA (show g2 ≠ g6 from by have:=BX2.out.lt;omega);have NE6_2:=zA (Ne.symm NE2_6.out);replace BX2:=zA (zO BX2.out hg);have NE4_6:=zA (show g4 ≠ g6 from by have:=BX4.out.lt;omega);have NE6_4:=zA (Ne.symm NE4_6.out);replace BX4:=zA (zO BX4.out hg);replace HI:=zA (mvInv.fresh HI.out hN hg);replace HL:=zA (mvRow.fresh HL.out hN hg);(try replace NP:=zA (mvPar.fresh NP.out hN hg));(try replace NA:=zA (mvRow.fresh NA.out hN hg));have BX6:=zA bx;clear hN hg bx;refine hK.out _ _ ⟨BX2.out.bx,hxE3⟩ (fun hHeld=>?_);clear hK K;refine norm_ (a':=?_) ?_ ?_;rotate_left
     ·show Act.put _ (some 6) _ = _
      simp only [Act.put,zP,zQ,zR,i64_w,i32_w];rfl
     refine last_ (i:=11) (N:=none) #[true,true,true,true,true,true,true,true,true,true,true,true,false] rfl rfl (by kernel_rfl) (by decide) (fun K hK=>?_);refine bx_store_if BX6.out (by rfl) rfl rfl rfl (cs':=Par.cs p_) rfl (Par.sizes _) rfl (Par.all _) ?_;intro w23 hg bx;replace HB:=zA (zK HB.out BX6.out hg);replace BX2:=zA (zN BX2.out hg NE2_6.out);replace BX4:=zA (zN BX4.out hg NE4_6.out);replace HI:=zA (mvInv.grown HI.out hg (by simp));replace HL:=zA (mvRow.grown HL.out hg (by simp));replace NP:=zA (mvPar.grown NP.out hg (by simp));replace NA:=zA (mvRow.grown NA.out hg (by simp));clear BX6;have BX6:=zA bx;clear bx hg;refine hK.out _ _ ?_;clear hK K;refine pure_ (i:=12) (N:=(some 7)) (v:=?_) (a':=?_) #[true,true,true,true,true,true,true,true,true,true,true,true,true] rfl rfl (by kernel_rfl) (fun _ _ _ h=>h) (Or.inl ⟨by rfl,?_⟩) ?_ ?_;rotate_left
     ·intro w';go_simp;(with_reducible rfl)
     rotate_left
     ·simp only [Act.put,zP,zQ,zR,i64_w,i32_w];rfl
     refine done_ (by kernel_rfl) ?_;clear eL;go_wp2_with (fail);go_meet
     case rel=>exact ⟨g6,p_,al_,rfl,rfl,NE2_6,NE4_6,HB,BX2,BX4,BX6,HI,HL,NP,NA⟩
    ·refine bx_alloc_if (t:=29) (n:=w.heap.size) (cs:=Par.zero.cs) (by rfl) rfl rfl Par.infoz HB.out.size ?_;intro g6 w6 hN hg bx;have hxE3:=(World.cell?_of_block (hg.block _ (World.block_lt_of_cell? _ _ hHeld.2) (by simp))).trans hHeld.2;replace HB:=zA (zL HB.out HB.out.size hg);have NE2_6:=zA (show g2 ≠ g6 from by have:=BX2.out.lt;omega);have NE6_2:=zA (Ne.symm NE2_6.out);replace BX2:=zA (zO BX2.out hg);have NE4_6:=zA (show g4 ≠ g6 from by have:=BX4.out.lt;omega);have NE6_4:=zA (Ne.symm NE4_6.out);replace BX4:=zA (zO BX4.out hg);replace HI:=zA (mvInv.fresh HI.out hN hg);replace HL:=zA (mvRow.fresh HL.out hN hg);have BX6:=zA bx;clear hN hg bx;refine hK.out _ _ ⟨BX2.out.bx,hxE3⟩ (fun hHeld=>?_);clear hK K;refine norm_ (a':=?_) ?_ ?_;rotate_left
     ·show Act.put _ (some 6) _ = _
      simp only [Act.put,zP,zQ,zR,i64_w,i32_w];rfl
     refine one_ (i:=6) (N:=(some 22)) #[true,true,true,true,true,true,true,false,false,false,true,false,false] rfl rfl (by kernel_rfl) (by decide) (fun K hK=>?_);refine goes_ Try.func55 (by kernel_rfl) rfl _ (by rfl) rfl rfl rfl ?_;(try simp only [zS,zT,zU]);refine Calls.mono (stepp_inv _ _ hby.out _ HI.out.p) ?_;rintro e w22 ⟨p_,al_,rfl,NP0,NA0,hb⟩
     refine ⟨_,rfl,?_⟩;((have NP:=zA (mvPar.back (ok:=ok) (n:=w.heap.size) (gs:=[g6,g4,g2]) NP0 HB.out.size (by simp only [zW,List.not_mem_nil,or_false];rintro g_ hg_;rcases hg_ with rfl|rfl|rfl <;> first|exact BX6.out.lt|exact BX4.out.lt|exact BX2.out.lt));have NA:=zA (mvRow.back (ok:=ok) (n:=w.heap.size) (gs:=[g6,g4,g2]) NA0 HB.out.size (by simp only [zW,List.not_mem_nil,or_false];rintro g_ hg_;rcases hg_ with rfl|rfl|rfl <;> first|exact BX6.out.lt|exact BX4.out.lt|exact BX2.out.lt))))
     clear NP0 NA0;have hxE2:=(hb.cell (World.block_lt_of_cell? _ _ hHeld.2)).trans hHeld.2;replace BX2:=zA (zM BX2.out hb);replace BX4:=zA (zM BX4.out hb);(try replace BX6:=zA (zM BX6.out hb));replace HI:=zA (mvInv.call HI.out hb);replace HL:=zA (mvRow.call HL.out hb);replace HB:=zA (zJ HB.out HB.out.size hb);clear hb;refine hK.out _ _ ⟨BX2.out.bx,hxE2⟩ (fun hHeld=>?_);clear hK K;refine norm_ (a':=?_) ?_ ?_;rotate_left
     ·show Act.put _ (some 22) _ = _
      simp only [Act.put,zP,zQ,zR,i64_w,i32_w];rfl
     refine pure_ (i:=7) (N:=(some 15)) (v:=?_) (a':=?_) #[true,true,true,true,true,true,true,true,false,false,true,false,false] rfl rfl (by kernel_rfl) (fun _ _ _ h=>h) (Or.inl ⟨by rfl,?_⟩) ?_ ?_;rotate_left
     ·intro w';go_simp;(with_reducible rfl)
     rotate_left
     ·simp only [Act.put,zP,zQ,zR,i64_w,i32_w];rfl
     refine pure_ (i:=8) (N:=(some 23)) (v:=?_) (a':=?_) #[true,true,true,true,true,true,true,true,true,false,true,false,false] rfl rfl (by kernel_rfl) (fun _ _ _ h=>h) (Or.inl ⟨by rfl,?_⟩) ?_ ?_;rotate_left
     ·intro w';go_simp;(with_reducible rfl)
     rotate_left
     ·simp only [Act.put,zP,zQ,zR,i64_w,i32_w];rfl
     refine pure_ (i:=9) (N:=(some 24)) (v:=?_) (a':=?_) #[true,true,true,true,true,true,true,true,true,true,true,false,false] rfl rfl (by kernel_rfl) (fun _ _ _ h=>h) (Or.inl ⟨by rfl,?_⟩) ?_ ?_;rotate_left
     ·intro w';go_simp;(with_reducible rfl)
     rotate_left
     ·simp only [Act.put,zP,zQ,zR,i64_w,i32_w];rfl
     refine last_ (i:=11) (N:=none) #[true,true,true,true,true,true,true,true,true,true,true,true,false] rfl rfl (by kernel_rfl) (by decide) (fun K hK=>?_);refine bx_store_if BX6.out (by rfl) rfl rfl rfl (cs':=Par.cs p_) rfl (Par.sizes _) rfl (Par.all _) ?_;intro w23 hg bx;replace HB:=zA (zK HB.out BX6.out hg);replace BX2:=zA (zN BX2.out hg NE2_6.out);replace BX4:=zA (zN BX4.out hg NE4_6.out);replace HI:=zA (mvInv.grown HI.out hg (by simp));replace HL:=zA (mvRow.grown HL.out hg (by simp));replace NP:=zA (mvPar.grown NP.out hg (by simp));replace NA:=zA (mvRow.grown NA.out hg (by simp));clear BX6;have BX6:=zA bx;clear bx hg;refine hK.out _ _ ?_;clear hK K;refine pure_ (i:=12) (N:=(some 7)) (v:=?_) (a':=?_) #[true,true,true,true,true,true,true,true,true,true,true,true,true] rfl rfl (by kernel_rfl) (fun _ _ _ h=>h) (Or.inl ⟨by rfl,?_⟩) ?_ ?_;rotate_left
     ·intro w';go_simp;(with_reducible rfl)
     rotate_left
     ·simp only [Act.put,zP,zQ,zR,i64_w,i32_w];rfl
     refine done_ (by kernel_rfl) ?_;clear eL;go_wp2_with (fail);go_meet
     case rel=>exact ⟨g6,p_,al_,rfl,rfl,NE2_6,NE4_6,HB,BX2,BX4,BX6,HI,HL,NP,NA⟩
   case rest =>
    clear HB BX2 BX4 HI HL;obtain ⟨g6,p_,al_,rfl,rfl,NE2_6,NE4_6,HB,BX2,BX4,BX6,HI,HL,NP,NA⟩:=hcut;have NE6_2:=zA (Ne.symm NE2_6.out);have NE6_4:=zA (Ne.symm NE4_6.out);go_wp2_with (fail);go_loopg [8] (al_.n) (fun kq v8 wr=>∃ (k : Int) (s2 : Scr),v8 = .int .i64 k∧Aside0 (kq = ((al_.n : Int) - k).toNat∧0 ≤ k∧k ≤ (al_.n : Int))∧Aside0 (Below w.heap.size w wr)∧Aside0 (Bx w.heap.size 31 g2 wr s2.cs)∧Aside0 (Bx w.heap.size 31 g4 wr Scr.zero.cs)∧Aside0 (Bx w.heap.size 29 g6 wr p_.cs)∧Aside0 (Inv s.rows s.cols s2 wr (Nb ok w.heap.size [g6,g4,g2]))∧Aside0 (Row (Kd.int .u8) bl Bytes8 wr (Nb ok w.heap.size [g6,g4,g2]))∧Aside0 (ParIn p_ wr (Nb ok w.heap.size [g6,g4,g2]))∧Aside0 (Acts 3 al_ wr (Nb ok w.heap.size [g6,g4,g2])))
    case atStart=>exact ⟨0,s1,rfl,⟨by omega,by decide,by omega⟩,HB,BX2,BX4,BX6,HI,HL,NP,NA⟩
    case round =>
     clear HB BX2 BX4 BX6 HI HL NP NA;obtain ⟨k,s2,rfl,HK2,HB,BX2,BX4,BX6,HI,HL,NP,NA⟩:=hrel;have p7:=eq_true HK2.out.2.1;by_cases hlk : k < (al_.n : Int)
     ·have p8:=eq_true hlk;obtain ⟨adA,c,eA,hcA,hAct⟩:=acts_at NA.out HK2.out.2.1 hlk;replace hcA:=zA hcA;replace hAct:=zA hAct;have ek : Aside0 (wrap64 (k + 1) = k + 1):=⟨by
       have h1:=HK2.out;obtain ⟨la,hla,hln,_,_⟩:=Row.reads NA.out;have h2:=hla.1;unfold wrap64;omega⟩
      clear hlk;go_wp2_with (fail);have hb : Below wr.heap.size wr wr.drew:=(zE _ _).drew;replace BX2:=zA (zM BX2.out hb);replace BX4:=zA (zM BX4.out hb);replace BX6:=zA (zM BX6.out hb);replace HI:=zA (mvInv.call HI.out hb);replace HL:=zA (mvRow.call HL.out hb);replace NP:=zA (mvPar.call NP.out hb);replace NA:=zA (mvRow.call NA.out hb);(try replace hAct:=zA (mvAct.call hAct.out hb));replace HB:=zA (zJ HB.out HB.out.size hb);clear hb;refine start_ (n:=7) (S:=fun w'=>w'.heap[g2]? = some (.cells s2.cs 31 (0,0))∧∀ j u,c.cs.toList[j]? = some u → w'.cell? (adA.add (k.toNat * 6 + j)) = some u) (ds:=[5,6]) #[false,false,false,false,false,false,false] (by kernel_rfl) rfl rfl ⟨BX2.out.bx,hcA.out⟩ (fun hHeld=>?_);generalize World.drew wr = wD at HB BX2 BX4 BX6 HI HL NP NA hAct hHeld ⊢;refine pure_ (i:=1) (N:=(some 32)) (v:=?_) (a':=?_) #[false,true,false,false,false,false,false] rfl rfl (by kernel_rfl) (fun _ _ _ h=>h) (Or.inl ⟨by rfl,?_⟩) ?_ ?_;rotate_left
      ·intro w';go_simp;(with_reducible rfl)
      rotate_left
      ·simp only [Act.put,zP,zQ,zR,i64_w,i32_w];rfl
      refine pure_ (i:=2) (N:=(some 33)) (v:=?_) (a':=?_) #[false,true,true,false,false,false,false] rfl rfl (by kernel_rfl) (fun _ _ _ h=>h) (Or.inl ⟨by rfl,?_⟩) ?_ ?_;rotate_left
      ·intro w';go_simp;(with_reducible rfl)
      rotate_left
      ·simp only [Act.put,zP,zQ,zR,i64_w,i32_w];rfl
      refine pure_ (i:=3) (N:=(some 34)) (v:=?_) (a':=?_) #[false,true,true,true,false,false,false] rfl rfl (by kernel_rfl) (fun _ _ _ h=>h) (Or.inl ⟨by rfl,?_⟩) ?_ ?_;rotate_left
      ·intro w';go_simp;(with_reducible rfl)
      rotate_left
      ·simp only [Act.put,zP,zQ,zR,i64_w,i32_w];rfl
      refine take_ (i:=0) (N:=(some 31)) (v:=(.agg s2.cs)) (a':=?_) #[true,true,true,true,false,false,false] rfl rfl (by kernel_rfl) (fun _ _ _ h=>h) (Or.inl ⟨by rfl,?_⟩) hHeld ?_ ?_
      ·rintro w' ⟨hs0_,hs1_⟩
       exact bx_yieldw hs0_ rfl rfl Try.underlying31 rfl (Scr.sizes s2)
      rotate_left
      ·simp only [Act.put,zP,zQ,zR,i64_w,i32_w];rfl
      refine take_ (i:=4) (N:=(some 35)) (v:=(.agg c.cs)) (a':=?_) #[true,true,true,true,true,false,false] rfl rfl (by kernel_rfl) (fun _ _ _ h=>h) (Or.inl ⟨by rfl,?_⟩) hHeld ?_ ?_
      ·rintro w' ⟨hs0_,hs1_⟩
       exact act_yields hs1_ rfl rfl
      rotate_left
      ·simp only [Act.put,zP,zQ,zR,i64_w,i32_w];rfl
      refine last_ (i:=5) (N:=(some 36)) #[true,true,true,true,true,true,false] rfl rfl (by kernel_rfl) (by decide) (fun K hK=>?_);refine goes_ Try.func56 (by kernel_rfl) rfl _ (by rfl) rfl rfl rfl ?_;(try simp only [zS,zT,zU]);refine Calls.mono (do_inv _ _ _ HI.out hAct.out) ?_;rintro e w36 ⟨s_,rfl,NI0,hb⟩
      refine ⟨_,rfl,?_⟩;have NI:=zA (mvInv.back (ok:=ok) (n:=w.heap.size) (gs:=[g6,g4,g2]) NI0 HB.out.size (by simp only [zW,List.not_mem_nil,or_false];rintro g_ hg_;rcases hg_ with rfl|rfl|rfl <;> first|exact BX6.out.lt|exact BX4.out.lt|exact BX2.out.lt));clear NI0;replace BX2:=zA (zM BX2.out hb);replace BX4:=zA (zM BX4.out hb);replace BX6:=zA (zM BX6.out hb);replace HI:=zA (mvInv.call HI.out hb);replace HL:=zA (mvRow.call HL.out hb);replace NP:=zA (mvPar.call NP.out hb);replace NA:=zA (mvRow.call NA.out hb);(try replace hAct:=zA (mvAct.call hAct.out hb));replace HB:=zA (zJ HB.out HB.out.size hb);clear hb;clear hAct;refine hK.out _ _ ?_;clear hK K;refine norm_ (a':=?_) ?_ ?_;rotate_left
      ·show Act.put _ (some 36) _ = _
       simp only [Act.put,zP,zQ,zR,i64_w,i32_w];rfl
      refine last_ (i:=6) (N:=none) #[true,true,true,true,true,true,true] rfl rfl (by kernel_rfl) (by decide) (fun K hK=>?_);refine bx_store_if BX2.out (by rfl) rfl rfl rfl (cs':=Scr.cs s_) rfl (Scr.sizes _) rfl (Scr.all _) ?_;intro w37 hg bx;replace HB:=zA (zK HB.out BX2.out hg);replace BX4:=zA (zN BX4.out hg NE4_2.out);replace BX6:=zA (zN BX6.out hg NE6_2.out);replace HI:=zA (mvInv.grown HI.out hg (by simp));replace HL:=zA (mvRow.grown HL.out hg (by simp));replace NP:=zA (mvPar.grown NP.out hg (by simp));replace NA:=zA (mvRow.grown NA.out hg (by simp));(try replace NI:=zA (mvInv.grown NI.out hg (by simp)));clear BX2;have BX2:=zA bx;clear bx hg;refine hK.out _ _ ?_;clear hK K;refine done_ (by kernel_rfl) ?_;go_wp2_with (fail);go_roundg (((al_.n : Int) - (k + 1)).toNat)
      case measure=>have:=HK2.out;have:=zF p8;omega
      case rel=>exact ⟨k + 1,s_,by rw [ek.out],⟨rfl,by have:=HK2.out;omega,by have:=zF p8;omega⟩,HB,BX2,BX4,BX6,NI,HL,NP,NA⟩
     ·go_wp2_with (first|((with_reducible refine zH (t:=29) (p:=38) rfl ?_);refine par_put BX2.out rfl rfl rfl rfl rfl ?_;intro w_38 hg bx;replace HB:=zA (zK HB.out BX2.out hg);replace BX4:=zA (zN BX4.out hg NE4_2.out);replace BX6:=zA (zN BX6.out hg NE6_2.out);replace HI:=zA (mvInv.grown HI.out hg (by simp));replace HL:=zA (mvRow.grown HL.out hg (by simp));replace NP:=zA (mvPar.grown NP.out hg (by simp));replace NA:=zA (mvRow.grown NA.out hg (by simp));clear BX2;have BX2:=zA bx;clear bx hg)|((with_reducible refine zG (N:=37) rfl ?_);refine bx_load BX6.out rfl rfl rfl rfl Try.underlying29 rfl (Par.sizes _) ?_));go_roundg (((bl.n : Int) - (i + 1)).toNat)
      case measure=>have:=HK.out;have:=zF p6;omega
      case rel=>exact ⟨i + 1,s2.setPar p_,by rw [ei.out],⟨rfl,by have:=HK.out;omega,by have:=zF p6;omega⟩,HB,BX2,BX4,⟨mvInv.drop (Inv.setPar HI.out NP.out)⟩,⟨mvRow.drop HL.out⟩⟩
  ·clear hC hP hn;go_wp2_with (first|((with_reducible refine zG (N:=39) rfl ?_);refine bx_load BX2.out rfl rfl rfl rfl Try.underlying31 rfl (Scr.sizes _) ?_)|((with_reducible refine zH (t:=31) (p:=4) rfl ?_);refine bx_store BX4.out rfl rfl rfl rfl (cs':=Scr.cs _) rfl (Scr.sizes _) rfl (Scr.all _) ?_;intro w_39 hg bx;replace HB:=zA (zK HB.out BX4.out hg);replace BX2:=zA (zN BX2.out hg NE2_4.out);replace HI:=zA (mvInv.grown HI.out hg (by simp));replace HL:=zA (mvRow.grown HL.out hg (by simp));clear BX4;have BX4:=zA bx;clear bx hg)|(refine bx_ret rfl BX4.out rfl Try.underlying31 rfl (Scr.sizes _) ?_));exact ⟨_,rfl,mvInv.out (n:=w.heap.size) (gs:=[g4,g2]) HI.out,HB.out⟩
end Go.Proofs.Ytooageeehallbaa.Scr
namespace Go.Proofs.YtooageeehallbaaW.PrintWords
open Go.RowKit
namespace Kd
section
variable {P : Program} {ops : Array Oper} {rest : List Oper} {o : Oper} {a : Act} {Q : Exit → Act → World → Prop} {Kc : Act → World → Prop}
/-- append(v,y...),y a string: where the row lies,too -/
theorem run_append_str_at (w : World) (base : Nat) (t u ty e : TypeId) (i : TypeInfo) (ht : P.underlying t = some (.slice e)) (hu : P.underlying u = some .string) (hi : P.info? e = some i) (hz : i.zero = some (.int .u8 0))
 (hsize : i.size = 1) (hby : i.bytes = 1) (v : Value) (n : Nat) (xs : List Value) (hown : w.ownsRow base e 1 v n xs) (s : ByteArray) (hbytes : n + s.size ≤ 140737488355328) (hbase : base ≤ w.heap.size) :
 ∃ v' w',(Builtin.append_ #[t,u] ty #[v,.string s]).run P w = .ok v' w'∧w'.ownsRow base e 1 v' (n + s.size) (xs ++ Lib.strCells s)∧w.grownBy w' v.ownBlock∧(v'.ownBlock = v.ownBlock∨v'.ownBlock = some w.heap.size):=by
 obtain ⟨v',w',hr,h2,h3,h4⟩:=Lib.run_append_own_string (P:=P) w base t u ty e i ht hu hi hz hsize hby v n xs hown s (by simp only [maxLen];omega) hbytes hbase;refine ⟨v',w',hr,h2,h3,?_⟩;rcases hown.2 with ⟨rfl,hn⟩|⟨g,cap,cur,rfl,hbg,hg,hnc,hcm,hcs,htake⟩
 ·by_cases hm : s.size = 0
  ·rw [h4.2 ⟨rfl,hm⟩];exact .inl rfl
  ·subst hn;have hr2:=run_append_nil_string (P:=P) w t u ty e i (.int .u8 0) ht hu hi hz s (by omega) (by omega) (by rw [hby];omega);rw [hr] at hr2;injection hr2 with hv hw
   subst hv;exact .inr (by simp [Value.ownBlock])
 ·by_cases hroom : n + s.size ≤ cap
  ·have hcs' : cur.size = cap:=by simpa using hcs
   have hr2:=Lib.run_append_room_string (P:=P) w t u ty e i ht hu hi hsize g n cap cur hg s hroom (by omega);rw [hr] at hr2;injection hr2 with hv hw
   subst hv;exact .inl (by simp [Value.ownBlock])
  ·have hxl : xs.length = n:=by simpa using hown.1
   have holds : ∀ j u,xs[j]? = some u → w.cell? ((⟨g,0,none⟩ : Addr).add j) = some u:=hown.cells (g:=g) rfl;have hr2:=Lib.run_append_grow_string (P:=P) w t u ty e i (.int .u8 0) ht hu hi hz ⟨g,0,none⟩ n cap xs (by rw [hsize];simpa using hxl) holds s (by omega) (by omega) (by rw [hby];exact growslice_fits (by omega) (by omega));rw [hr] at hr2;injection hr2 with hv hw
   subst hv;exact .inr (by simp [Value.ownBlock])
theorem append_str_row {W w1 : World} {base e : Nat} {ok : Nat → Prop} {v v1 : Value} {xs : List Int} {y : ByteArray} (HO : (Kd.int .u8).R e W base ok v xs) (hfresh : ∀ k,W.heap.size ≤ k → ok k)
 (h2 : w1.ownsRow base e 1 v1 (xs.length + y.size) (nums .u8 xs ++ Lib.strCells y)) (hat : v1.ownBlock = v.ownBlock∨v1.ownBlock = some W.heap.size) : (Kd.int .u8).R e w1 base ok v1 (xs ++ bytesOf y):=by
 have hl2 : (xs ++ bytesOf y).length = xs.length + y.size:=by rw [List.length_append,bytesOf_length]
 have hc : encs (Value.int .u8) (xs ++ bytesOf y) = nums .u8 xs ++ Lib.strCells y:=by
  rw [encs_append];congr 1
  simp [encs,bytesOf,Lib.strCells]
 refine R_of_own (h1:=fun _=>rfl) (by rw [hl2,hc];exact h2) (fun k hk=>?_);rcases hat with hat|hat
 ·exact HO.1 k (hat ▸ hk)
 ·rw [hat] at hk;injection hk with hk
  exact hfresh k (by omega)
theorem R_append_str {w0 W : World} (base : Nat) (hgd : o.guard = none) (s x : Operand) (t u e : TypeId)
 (ho : o.op = .call { callee:=.builtin .append,args:=#[s,x],argTypes:=#[t,u] })
 (ht : P.underlying t = some (.slice e)) (hu : P.underlying u = some .string) (hinfo : (P.info? e).map (fun i=>(i.zero,i.size,i.bytes)) = some (some (.int .u8 0),1,1))
 (v : Value) (xs : List Int) (y : ByteArray) (ok : Nat → Prop) (hs : a.eval s = v) (hx : a.eval x = .string y)
 (HO : (Kd.int .u8).R e W base ok v xs) (hfresh : ∀ k,W.heap.size ≤ k → ok k) (HB : Below base w0 W) (hbase : base ≤ W.heap.size) (hl : xs.length + y.size ≤ 140737488355328)
 (h : ∀ v1 w1,(Kd.int .u8).R e w1 base ok v1 (xs ++ bytesOf y) → Below base w0 w1 → W.grownBy w1 v.ownBlock → (v1.ownBlock = v.ownBlock∨∃ b,v1.ownBlock = some b∧W.heap.size ≤ b) → wpList P ops Q rest (a.put o.dst v1) w1) :
 wpList P ops Q (o :: rest) a W:=by
 obtain ⟨i0,hi,hzz⟩:=Option.map_eq_some_iff.1 hinfo;simp only [Prod.mk.injEq] at hzz;obtain ⟨hz0,hz1,hz2⟩:=hzz;have hown:=own_of_R HO;obtain ⟨v',w',hr,h2,hg,hat⟩:=run_append_str_at (P:=P) W base t u o.type e i0 ht hu hi hz0 hz1 hz2 v xs.length (nums .u8 xs) hown y hl hbase;refine wpList_plain hgd fun K hK=>?_
 unfold Oper.wp execOp;simp only [ho,resolve,invoke,builtin,Sem.run_bind,Sem.run_pure,Result.andThen_ok,List.map_toArray,List.map_cons,List.map_nil,hs,hx,hr];exact hK _ _ (h v' w' (append_str_row HO hfresh h2 hat) (HB.grown hg hbase (own_base hown)) hg (hat.imp id (fun h=>⟨_,h,Nat.le_refl _⟩)))
end
end Kd
end Go.Proofs.YtooageeehallbaaW.PrintWords
namespace Go.Proofs.Ytooageeehallbaa.QRunsCut
open Go.RowKit Go.Proofs.YtooageeehallbaaW.PrintWords Go.Proofs.YtooageeehallbaaW.PrintLast Go.Proofs.YtooageeehallbaaW.PrintMore
attribute [local go_sem] max2_int min2_int max_two min_two max_three min_three max_four min_four 
set_option linter.unusedVariables false
set_option linter.unusedSimpArgs false
/-! ### repriseseat_Bytes: function 38 -/
def repriseseat_Bytes.l0 : Nat → List Int → List ByteArray → List Int → Int → Option (List Int)
|0,_,_,_,_=>none
|k + 1,x0,x3,x4,x5=>if x5 < (x0.length : Int) then (if 0 ≤ x5 then (if (x3.length : Int) = 0 then (none) else (if 0 ≤ (Int.tmod (wrap64 (rd x0 x5)) (x3.length : Int)) then (if (Int.tmod (wrap64 (rd x0 x5)) (x3.length : Int)) < (x3.length : Int) then (if x4.length + (rdOf ByteArray.empty x3 (Int.tmod (wrap64 (rd x0 x5)) (x3.length : Int))).size < 140737488355328 then (repriseseat_Bytes.l0 k x0 x3 (x4 ++ bytesOf (rdOf ByteArray.empty x3 (Int.tmod (wrap64 (rd x0 x5)) (x3.length : Int)))) (wrap64 (x5 + 1))) else (none)) else (none)) else (none))) else (none)) else (some x4)
def repriseseat_Bytes.f (k : Nat) (l0 : List Int) : Option (List Int):=repriseseat_Bytes.l0 k l0 (([(⟨#[97,98]⟩ : ByteArray),(⟨#[120]⟩ : ByteArray),(⟨#[230,188,162]⟩ : ByteArray),(⟨#[195,169]⟩ : ByteArray),(⟨#[13,10]⟩ : ByteArray),(⟨#[10]⟩ : ByteArray),(⟨#[13]⟩ : ByteArray),(⟨#[8]⟩ : ByteArray),(⟨#[9]⟩ : ByteArray),(⟨#[27,91,65]⟩ : ByteArray),(⟨#[27,91,51,66]⟩ : ByteArray),(⟨#[27,91,50,67]⟩ : ByteArray),(⟨#[27,91,68]⟩ : ByteArray),(⟨#[27,91,50,59,51,72]⟩ : ByteArray),(⟨#[27,91,74]⟩ : ByteArray),(⟨#[27,91,49,74]⟩ : ByteArray),(⟨#[27,91,50,74]⟩ : ByteArray),(⟨#[27,91,75]⟩ : ByteArray),(⟨#[27,91,49,75]⟩ : ByteArray),(⟨#[27,91,76]⟩ : ByteArray),(⟨#[27,91,50,77]⟩ : ByteArray),(⟨#[27,91,50,64]⟩ : ByteArray),(⟨#[27,91,80]⟩ : ByteArray),(⟨#[27,91,51,88]⟩ : ByteArray),(⟨#[27,91,83]⟩ : ByteArray),(⟨#[27,91,84]⟩ : ByteArray),(⟨#[27,91,50,59,52,114]⟩ : ByteArray),(⟨#[27,91,114]⟩ : ByteArray),(⟨#[27,77]⟩ : ByteArray),(⟨#[27,68]⟩ : ByteArray),(⟨#[27,69]⟩ : ByteArray),(⟨#[27,55]⟩ : ByteArray),(⟨#[27,56]⟩ : ByteArray),(⟨#[27,99]⟩ : ByteArray),(⟨#[27,72]⟩ : ByteArray),(⟨#[27,91,103]⟩ : ByteArray),(⟨#[27,91,51,103]⟩ : ByteArray),(⟨#[27,91,49,59,51,49,109]⟩ : ByteArray),(⟨#[27,91,48,59,52,59,52,55,109]⟩ : ByteArray),(⟨#[27,91,109]⟩ : ByteArray),(⟨#[27,91,63,55,108]⟩ : ByteArray),(⟨#[27,91,63,55,104]⟩ : ByteArray),(⟨#[27,91,63,50,53,108]⟩ : ByteArray),(⟨#[27,91,63,49,48,52,57,104]⟩ : ByteArray),(⟨#[27,91,63,49,48,52,57,108]⟩ : ByteArray),(⟨#[27,91,53,71]⟩ : ByteArray),(⟨#[27,91,50,100]⟩ : ByteArray),(⟨#[27,93,48,59,116,7]⟩ : ByteArray),(⟨#[27,80,49,27,92]⟩ : ByteArray),(⟨#[230]⟩ : ByteArray),(⟨#[255]⟩ : ByteArray),(⟨#[27,91]⟩ : ByteArray),(⟨#[27]⟩ : ByteArray),(⟨#[49,50,59]⟩ : ByteArray),(⟨#[24]⟩ : ByteArray),(⟨#[97,98,99,100,101,102,103,104]⟩ : ByteArray),(⟨#[27,91,57,57,57,57,57,57,57,57,57,57,57,109]⟩ : ByteArray),(⟨#[27,40,66]⟩ : ByteArray),(⟨#[27,91,49,58,50,109]⟩ : ByteArray),(⟨#[27,91,62,99]⟩ : ByteArray),(⟨#[195]⟩ : ByteArray),(⟨#[169]⟩ : ByteArray),(⟨#[229,173,151,229,173,151]⟩ : ByteArray),(⟨#[27,91,33,112]⟩ : ByteArray),(⟨#[204,129]⟩ : ByteArray),(⟨#[12]⟩ : ByteArray),(⟨#[127]⟩ : ByteArray),(⟨#[27,91,59,72]⟩ : ByteArray),(⟨#[27,91,48,75]⟩ : ByteArray)] : List ByteArray)) ([] : List Int) 0
theorem repriseseat_Bytes.mono_l : ∀ k,(∀ y0 y1 y2 y3,LeO (repriseseat_Bytes.l0 k y0 y1 y2 y3) (repriseseat_Bytes.l0 (k + 1) y0 y1 y2 y3))
|0=>fun _ _ _ _ r h=>by simp [repriseseat_Bytes.l0] at h
|k + 1=>by
  have ih0:=repriseseat_Bytes.mono_l k
  ·intro y0 y1 y2 y3;unfold repriseseat_Bytes.l0;repeat' first
  |(with_reducible exact ih0 _ _ _ _)
  |(with_reducible exact LeO.refl _)
  |(with_reducible exact LeO.none _)
  |(with_reducible refine LeO.ite ?_ ?_)
  |(with_reducible refine LeO.bind ?_ (fun _=>?_))
  |exact ih0 _ _ _ _
  |exact LeO.none _
  |refine LeO.ite ?_ ?_
  |refine LeO.bind ?_ (fun _=>?_)
theorem repriseseat_Bytes.mono : ∀ a0 k,LeO (repriseseat_Bytes.f k a0) (repriseseat_Bytes.f (k + 1) a0):=by
 intro a0 k;have ih0:=repriseseat_Bytes.mono_l k;unfold repriseseat_Bytes.f;repeat' first
 |(with_reducible exact ih0 _ _ _ _)
 |(with_reducible exact LeO.refl _)
 |(with_reducible exact LeO.none _)
 |(with_reducible refine LeO.ite ?_ ?_)
 |(with_reducible refine LeO.bind ?_ (fun _=>?_))
 |exact ih0 _ _ _ _
 |exact LeO.none _
 |refine LeO.ite ?_ ?_
 |refine LeO.bind ?_ (fun _=>?_)
set_option maxHeartbeats 8000000 in
set_option maxRecDepth 100000 in
theorem repriseseat_Bytes.calls (k : Nat) (A0 : Option Addr) (c0 : Nat) (l0 : List Int) (r : List Int) (w : World) (hr0 : Kd.C (Kd.int .u8) w A0 l0.length l0) (hc0 : l0.length ≤ c0) (h : repriseseat_Bytes.f k l0 = some r) :
 Calls Try.prog 38 #[.slice A0 l0.length c0] w fun e w'=>∃ v0_ : Value,e = .returned (v0_)∧Kd.R (Kd.int .u8) 5 w' w.heap.size (fun _=>True) v0_ r∧Below w.heap.size w w':=by
 have HR0:=zA hr0;have HC0:=zA hc0;clear hr0 hc0;have HB:=zA (zE w.heap.size w);have H : (repriseseat_Bytes.l0 k l0 (([(⟨#[97,98]⟩ : ByteArray),(⟨#[120]⟩ : ByteArray),(⟨#[230,188,162]⟩ : ByteArray),(⟨#[195,169]⟩ : ByteArray),(⟨#[13,10]⟩ : ByteArray),(⟨#[10]⟩ : ByteArray),(⟨#[13]⟩ : ByteArray),(⟨#[8]⟩ : ByteArray),(⟨#[9]⟩ : ByteArray),(⟨#[27,91,65]⟩ : ByteArray),(⟨#[27,91,51,66]⟩ : ByteArray),(⟨#[27,91,50,67]⟩ : ByteArray),(⟨#[27,91,68]⟩ : ByteArray),(⟨#[27,91,50,59,51,72]⟩ : ByteArray),(⟨#[27,91,74]⟩ : ByteArray),(⟨#[27,91,49,74]⟩ : ByteArray),(⟨#[27,91,50,74]⟩ : ByteArray),(⟨#[27,91,75]⟩ : ByteArray),(⟨#[27,91,49,75]⟩ : ByteArray),(⟨#[27,91,76]⟩ : ByteArray),(⟨#[27,91,50,77]⟩ : ByteArray),(⟨#[27,91,50,64]⟩ : ByteArray),(⟨#[27,91,80]⟩ : ByteArray),(⟨#[27,91,51,88]⟩ : ByteArray),(⟨#[27,91,83]⟩ : ByteArray),(⟨#[27,91,84]⟩ : ByteArray),(⟨#[27,91,50,59,52,114]⟩ : ByteArray),(⟨#[27,91,114]⟩ : ByteArray),(⟨#[27,77]⟩ : ByteArray),(⟨#[27,68]⟩ : ByteArray),(⟨#[27,69]⟩ : ByteArray),(⟨#[27,55]⟩ : ByteArray),(⟨#[27,56]⟩ : ByteArray),(⟨#[27,99]⟩ : ByteArray),(⟨#[27,72]⟩ : ByteArray),(⟨#[27,91,103]⟩ : ByteArray),(⟨#[27,91,51,103]⟩ : ByteArray),(⟨#[27,91,49,59,51,49,109]⟩ : ByteArray),(⟨#[27,91,48,59,52,59,52,55,109]⟩ : ByteArray),(⟨#[27,91,109]⟩ : ByteArray),(⟨#[27,91,63,55,108]⟩ : ByteArray),(⟨#[27,91,63,55,104]⟩ : ByteArray),(⟨#[27,91,63,50,53,108]⟩ : ByteArray),(⟨#[27,91,63,49,48,52,57,104]⟩ : ByteArray),(⟨#[27,91,63,49,48,52,57,108]⟩ : ByteArray),(⟨#[27,91,53,71]⟩ : ByteArray),(⟨#[27,91,50,100]⟩ : ByteArray),(⟨#[27,93,48,59,116,7]⟩ : ByteArray),(⟨#[27,80,49,27,92]⟩ : ByteArray),(⟨#[230]⟩ : ByteArray),(⟨#[255]⟩ : ByteArray),(⟨#[27,91]⟩ : ByteArray),(⟨#[27]⟩ : ByteArray),(⟨#[49,50,59]⟩ : ByteArray),(⟨#[24]⟩ : ByteArray),(⟨#[97,98,99,100,101,102,103,104]⟩ : ByteArray),(⟨#[27,91,57,57,57,57,57,57,57,57,57,57,57,109]⟩ : ByteArray),(⟨#[27,40,66]⟩ : ByteArray),(⟨#[27,91,49,58,50,109]⟩ : ByteArray),(⟨#[27,91,62,99]⟩ : ByteArray),(⟨#[195]⟩ : ByteArray),(⟨#[169]⟩ : ByteArray),(⟨#[229,173,151,229,173,151]⟩ : ByteArray),(⟨#[27,91,33,112]⟩ : ByteArray),(⟨#[204,129]⟩ : ByteArray),(⟨#[12]⟩ : ByteArray),(⟨#[127]⟩ : ByteArray),(⟨#[27,91,59,72]⟩ : ByteArray),(⟨#[27,91,48,75]⟩ : ByteArray)] : List ByteArray)) ([] : List Int) 0) = some r:=h;clear h;obtain ⟨y1095,hy1095⟩ : ∃ y_ : List ByteArray,y_ = (([(⟨#[97,98]⟩ : ByteArray),(⟨#[120]⟩ : ByteArray),(⟨#[230,188,162]⟩ : ByteArray),(⟨#[195,169]⟩ : ByteArray),(⟨#[13,10]⟩ : ByteArray),(⟨#[10]⟩ : ByteArray),(⟨#[13]⟩ : ByteArray),(⟨#[8]⟩ : ByteArray),(⟨#[9]⟩ : ByteArray),(⟨#[27,91,65]⟩ : ByteArray),(⟨#[27,91,51,66]⟩ : ByteArray),(⟨#[27,91,50,67]⟩ : ByteArray),(⟨#[27,91,68]⟩ : ByteArray),(⟨#[27,91,50,59,51,72]⟩ : ByteArray),(⟨#[27,91,74]⟩ : ByteArray),(⟨#[27,91,49,74]⟩ : ByteArray),(⟨#[27,91,50,74]⟩ : ByteArray),(⟨#[27,91,75]⟩ : ByteArray),(⟨#[27,91,49,75]⟩ : ByteArray),(⟨#[27,91,76]⟩ : ByteArray),(⟨#[27,91,50,77]⟩ : ByteArray),(⟨#[27,91,50,64]⟩ : ByteArray),(⟨#[27,91,80]⟩ : ByteArray),(⟨#[27,91,51,88]⟩ : ByteArray),(⟨#[27,91,83]⟩ : ByteArray),(⟨#[27,91,84]⟩ : ByteArray),(⟨#[27,91,50,59,52,114]⟩ : ByteArray),(⟨#[27,91,114]⟩ : ByteArray),(⟨#[27,77]⟩ : ByteArray),(⟨#[27,68]⟩ : ByteArray),(⟨#[27,69]⟩ : ByteArray),(⟨#[27,55]⟩ : ByteArray),(⟨#[27,56]⟩ : ByteArray),(⟨#[27,99]⟩ : ByteArray),(⟨#[27,72]⟩ : ByteArray),(⟨#[27,91,103]⟩ : ByteArray),(⟨#[27,91,51,103]⟩ : ByteArray),(⟨#[27,91,49,59,51,49,109]⟩ : ByteArray),(⟨#[27,91,48,59,52,59,52,55,109]⟩ : ByteArray),(⟨#[27,91,109]⟩ : ByteArray),(⟨#[27,91,63,55,108]⟩ : ByteArray),(⟨#[27,91,63,55,104]⟩ : ByteArray),(⟨#[27,91,63,50,53,108]⟩ : ByteArray),(⟨#[27,91,63,49,48,52,57,104]⟩ : ByteArray),(⟨#[27,91,63,49,48,52,57,108]⟩ : ByteArray),(⟨#[27,91,53,71]⟩ : ByteArray),(⟨#[27,91,50,100]⟩ : ByteArray),(⟨#[27,93,48,59,116,7]⟩ : ByteArray),(⟨#[27,80,49,27,92]⟩ : ByteArray),(⟨#[230]⟩ : ByteArray),(⟨#[255]⟩ : ByteArray),(⟨#[27,91]⟩ : ByteArray),(⟨#[27]⟩ : ByteArray),(⟨#[49,50,59]⟩ : ByteArray),(⟨#[24]⟩ : ByteArray),(⟨#[97,98,99,100,101,102,103,104]⟩ : ByteArray),(⟨#[27,91,57,57,57,57,57,57,57,57,57,57,57,109]⟩ : ByteArray),(⟨#[27,40,66]⟩ : ByteArray),(⟨#[27,91,49,58,50,109]⟩ : ByteArray),(⟨#[27,91,62,99]⟩ : ByteArray),(⟨#[195]⟩ : ByteArray),(⟨#[169]⟩ : ByteArray),(⟨#[229,173,151,229,173,151]⟩ : ByteArray),(⟨#[27,91,33,112]⟩ : ByteArray),(⟨#[204,129]⟩ : ByteArray),(⟨#[12]⟩ : ByteArray),(⟨#[127]⟩ : ByteArray),(⟨#[27,91,59,72]⟩ : ByteArray),(⟨#[27,91,48,75]⟩ : ByteArray)] : List ByteArray)):=⟨_,rfl⟩;replace H : (repriseseat_Bytes.l0 k l0 y1095 ([] : List Int) 0) = some r:=by (rw [hy1095];with_reducible exact H)
 have Ny1095:=zA hy1095;clear hy1095;have H':=zA H;clear H;go_enter Try.func38,Try.ntmps38
 go_wp2_with (((with_reducible refine zG (N:=6) rfl ?_);refine Kd.R_lit Kd.string _ 9 ?hg (N:=6) ?hd (xs:=([(⟨#[97,98]⟩ : ByteArray),(⟨#[120]⟩ : ByteArray),(⟨#[230,188,162]⟩ : ByteArray),(⟨#[195,169]⟩ : ByteArray),(⟨#[13,10]⟩ : ByteArray),(⟨#[10]⟩ : ByteArray),(⟨#[13]⟩ : ByteArray),(⟨#[8]⟩ : ByteArray),(⟨#[9]⟩ : ByteArray),(⟨#[27,91,65]⟩ : ByteArray),(⟨#[27,91,51,66]⟩ : ByteArray),(⟨#[27,91,50,67]⟩ : ByteArray),(⟨#[27,91,68]⟩ : ByteArray),(⟨#[27,91,50,59,51,72]⟩ : ByteArray),(⟨#[27,91,74]⟩ : ByteArray),(⟨#[27,91,49,74]⟩ : ByteArray),(⟨#[27,91,50,74]⟩ : ByteArray),(⟨#[27,91,75]⟩ : ByteArray),(⟨#[27,91,49,75]⟩ : ByteArray),(⟨#[27,91,76]⟩ : ByteArray),(⟨#[27,91,50,77]⟩ : ByteArray),(⟨#[27,91,50,64]⟩ : ByteArray),(⟨#[27,91,80]⟩ : ByteArray),(⟨#[27,91,51,88]⟩ : ByteArray),(⟨#[27,91,83]⟩ : ByteArray),(⟨#[27,91,84]⟩ : ByteArray),(⟨#[27,91,50,59,52,114]⟩ : ByteArray),(⟨#[27,91,114]⟩ : ByteArray),(⟨#[27,77]⟩ : ByteArray),(⟨#[27,68]⟩ : ByteArray),(⟨#[27,69]⟩ : ByteArray),(⟨#[27,55]⟩ : ByteArray),(⟨#[27,56]⟩ : ByteArray),(⟨#[27,99]⟩ : ByteArray),(⟨#[27,72]⟩ : ByteArray),(⟨#[27,91,103]⟩ : ByteArray),(⟨#[27,91,51,103]⟩ : ByteArray),(⟨#[27,91,49,59,51,49,109]⟩ : ByteArray),(⟨#[27,91,48,59,52,59,52,55,109]⟩ : ByteArray),(⟨#[27,91,109]⟩ : ByteArray),(⟨#[27,91,63,55,108]⟩ : ByteArray),(⟨#[27,91,63,55,104]⟩ : ByteArray),(⟨#[27,91,63,50,53,108]⟩ : ByteArray),(⟨#[27,91,63,49,48,52,57,104]⟩ : ByteArray),(⟨#[27,91,63,49,48,52,57,108]⟩ : ByteArray),(⟨#[27,91,53,71]⟩ : ByteArray),(⟨#[27,91,50,100]⟩ : ByteArray),(⟨#[27,93,48,59,116,7]⟩ : ByteArray),(⟨#[27,80,49,27,92]⟩ : ByteArray),(⟨#[230]⟩ : ByteArray),(⟨#[255]⟩ : ByteArray),(⟨#[27,91]⟩ : ByteArray),(⟨#[27]⟩ : ByteArray),(⟨#[49,50,59]⟩ : ByteArray),(⟨#[24]⟩ : ByteArray),(⟨#[97,98,99,100,101,102,103,104]⟩ : ByteArray),(⟨#[27,91,57,57,57,57,57,57,57,57,57,57,57,109]⟩ : ByteArray),(⟨#[27,40,66]⟩ : ByteArray),(⟨#[27,91,49,58,50,109]⟩ : ByteArray),(⟨#[27,91,62,99]⟩ : ByteArray),(⟨#[195]⟩ : ByteArray),(⟨#[169]⟩ : ByteArray),(⟨#[229,173,151,229,173,151]⟩ : ByteArray),(⟨#[27,91,33,112]⟩ : ByteArray),(⟨#[204,129]⟩ : ByteArray),(⟨#[12]⟩ : ByteArray),(⟨#[127]⟩ : ByteArray),(⟨#[27,91,59,72]⟩ : ByteArray),(⟨#[27,91,48,75]⟩ : ByteArray)] : List ByteArray)) (inner:=[.string (⟨#[97,98]⟩ : ByteArray),.string (⟨#[120]⟩ : ByteArray),.string (⟨#[230,188,162]⟩ : ByteArray),.string (⟨#[195,169]⟩ : ByteArray),.string (⟨#[13,10]⟩ : ByteArray),.string (⟨#[10]⟩ : ByteArray),.string (⟨#[13]⟩ : ByteArray),.string (⟨#[8]⟩ : ByteArray),.string (⟨#[9]⟩ : ByteArray),.string (⟨#[27,91,65]⟩ : ByteArray),.string (⟨#[27,91,51,66]⟩ : ByteArray),.string (⟨#[27,91,50,67]⟩ : ByteArray),.string (⟨#[27,91,68]⟩ : ByteArray),.string (⟨#[27,91,50,59,51,72]⟩ : ByteArray),.string (⟨#[27,91,74]⟩ : ByteArray),.string (⟨#[27,91,49,74]⟩ : ByteArray),.string (⟨#[27,91,50,74]⟩ : ByteArray),.string (⟨#[27,91,75]⟩ : ByteArray),.string (⟨#[27,91,49,75]⟩ : ByteArray),.string (⟨#[27,91,76]⟩ : ByteArray),.string (⟨#[27,91,50,77]⟩ : ByteArray),.string (⟨#[27,91,50,64]⟩ : ByteArray),.string (⟨#[27,91,80]⟩ : ByteArray),.string (⟨#[27,91,51,88]⟩ : ByteArray),.string (⟨#[27,91,83]⟩ : ByteArray),.string (⟨#[27,91,84]⟩ : ByteArray),.string (⟨#[27,91,50,59,52,114]⟩ : ByteArray),.string (⟨#[27,91,114]⟩ : ByteArray),.string (⟨#[27,77]⟩ : ByteArray),.string (⟨#[27,68]⟩ : ByteArray),.string (⟨#[27,69]⟩ : ByteArray),.string (⟨#[27,55]⟩ : ByteArray),.string (⟨#[27,56]⟩ : ByteArray),.string (⟨#[27,99]⟩ : ByteArray),.string (⟨#[27,72]⟩ : ByteArray),.string (⟨#[27,91,103]⟩ : ByteArray),.string (⟨#[27,91,51,103]⟩ : ByteArray),.string (⟨#[27,91,49,59,51,49,109]⟩ : ByteArray),.string (⟨#[27,91,48,59,52,59,52,55,109]⟩ : ByteArray),.string (⟨#[27,91,109]⟩ : ByteArray),.string (⟨#[27,91,63,55,108]⟩ : ByteArray),.string (⟨#[27,91,63,55,104]⟩ : ByteArray),.string (⟨#[27,91,63,50,53,108]⟩ : ByteArray),.string (⟨#[27,91,63,49,48,52,57,104]⟩ : ByteArray),.string (⟨#[27,91,63,49,48,52,57,108]⟩ : ByteArray),.string (⟨#[27,91,53,71]⟩ : ByteArray),.string (⟨#[27,91,50,100]⟩ : ByteArray),.string (⟨#[27,93,48,59,116,7]⟩ : ByteArray),.string (⟨#[27,80,49,27,92]⟩ : ByteArray),.string (⟨#[230]⟩ : ByteArray),.string (⟨#[255]⟩ : ByteArray),.string (⟨#[27,91]⟩ : ByteArray),.string (⟨#[27]⟩ : ByteArray),.string (⟨#[49,50,59]⟩ : ByteArray),.string (⟨#[24]⟩ : ByteArray),.string (⟨#[97,98,99,100,101,102,103,104]⟩ : ByteArray),.string (⟨#[27,91,57,57,57,57,57,57,57,57,57,57,57,109]⟩ : ByteArray),.string (⟨#[27,40,66]⟩ : ByteArray),.string (⟨#[27,91,49,58,50,109]⟩ : ByteArray),.string (⟨#[27,91,62,99]⟩ : ByteArray),.string (⟨#[195]⟩ : ByteArray),.string (⟨#[169]⟩ : ByteArray),.string (⟨#[229,173,151,229,173,151]⟩ : ByteArray),.string (⟨#[27,91,33,112]⟩ : ByteArray),.string (⟨#[204,129]⟩ : ByteArray),.string (⟨#[12]⟩ : ByteArray),.string (⟨#[127]⟩ : ByteArray),.string (⟨#[27,91,59,72]⟩ : ByteArray),.string (⟨#[27,91,48,75]⟩ : ByteArray)]) (ok:=fun _=>True) (okp:=fun _=>True) ?hr ?hp (fun _ hk=>hk) trivial (zE _ _) (Nat.le_refl _) (by simp) ?_;(case hd=>rfl);(case hg=>rfl);(case hr=>(go_simp;done));(case hp=>exact (Reps.one (show Kd.M Kd.string _ _ _ (⟨#[97,98]⟩ : ByteArray) [.string (⟨#[97,98]⟩ : ByteArray)] from rfl) (Reps.one (show Kd.M Kd.string _ _ _ (⟨#[120]⟩ : ByteArray) [.string (⟨#[120]⟩ : ByteArray)] from rfl) (Reps.one (show Kd.M Kd.string _ _ _ (⟨#[230,188,162]⟩ : ByteArray) [.string (⟨#[230,188,162]⟩ : ByteArray)] from rfl) (Reps.one (show Kd.M Kd.string _ _ _ (⟨#[195,169]⟩ : ByteArray) [.string (⟨#[195,169]⟩ : ByteArray)] from rfl) (Reps.one (show Kd.M Kd.string _ _ _ (⟨#[13,10]⟩ : ByteArray) [.string (⟨#[13,10]⟩ : ByteArray)] from rfl) (Reps.one (show Kd.M Kd.string _ _ _ (⟨#[10]⟩ : ByteArray) [.string (⟨#[10]⟩ : ByteArray)] from rfl) (Reps.one (show Kd.M Kd.string _ _ _ (⟨#[13]⟩ : ByteArray) [.string (⟨#[13]⟩ : ByteArray)] from rfl) (Reps.one (show Kd.M Kd.string _ _ _ (⟨#[8]⟩ : ByteArray) [.string (⟨#[8]⟩ : ByteArray)] from rfl) (Reps.one (show Kd.M Kd.string _ _ _ (⟨#[9]⟩ : ByteArray) [.string (⟨#[9]⟩ : ByteArray)] from rfl) (Reps.one (show Kd.M Kd.string _ _ _ (⟨#[27,91,65]⟩ : ByteArray) [.string (⟨#[27,91,65]⟩ : ByteArray)] from rfl) (Reps.one (show Kd.M Kd.string _ _ _ (⟨#[27,91,51,66]⟩ : ByteArray) [.string (⟨#[27,91,51,66]⟩ : ByteArray)] from rfl) (Reps.one (show Kd.M Kd.string _ _ _ (⟨#[27,91,50,67]⟩ : ByteArray) [.string (⟨#[27,91,50,67]⟩ : ByteArray)] from rfl) (Reps.one (show Kd.M Kd.string _ _ _ (⟨#[27,91,68]⟩ : ByteArray) [.string (⟨#[27,91,68]⟩ : ByteArray)] from rfl) (Reps.one (show Kd.M Kd.string _ _ _ (⟨#[27,91,50,59,51,72]⟩ : ByteArray) [.string (⟨#[27,91,50,59,51,72]⟩ : ByteArray)] from rfl) (Reps.one (show Kd.M Kd.string _ _ _ (⟨#[27,91,74]⟩ : ByteArray) [.string (⟨#[27,91,74]⟩ : ByteArray)] from rfl) (Reps.one (show Kd.M Kd.string _ _ _ (⟨#[27,91,49,74]⟩ : ByteArray) [.string (⟨#[27,91,49,74]⟩ : ByteArray)] from rfl) (Reps.one (show Kd.M Kd.string _ _ _ (⟨#[27,91,50,74]⟩ : ByteArray) [.string (⟨#[27,91,50,74]⟩ : ByteArray)] from rfl) (Reps.one (show Kd.M Kd.string _ _ _ (⟨#[27,91,75]⟩ : ByteArray) [.string (⟨#[27,91,75]⟩ : ByteArray)] from rfl) (Reps.one (show Kd.M Kd.string _ _ _ (⟨#[27,91,49,75]⟩ : ByteArray) [.string (⟨#[27,91,49,75]⟩ : ByteArray)] from rfl) (Reps.one (show Kd.M Kd.string _ _ _ (⟨#[27,91,76]⟩ : ByteArray) [.string (⟨#[27,91,76]⟩ : ByteArray)] from rfl) (Reps.one (show Kd.M Kd.string _ _ _ (⟨#[27,91,50,77]⟩ : ByteArray) [.string (⟨#[27,91,50,77]⟩ : ByteArray)] from rfl) (Reps.one (show Kd.M Kd.string _ _ _ (⟨#[27,91,50,64]⟩ : ByteArray) [.string (⟨#[27,91,50,64]⟩ : ByteArray)] from rfl) (Reps.one (show Kd.M Kd.string _ _ _ (⟨#[27,91,80]⟩ : ByteArray) [.string (⟨#[27,91,80]⟩ : ByteArray)] from rfl) (Reps.one (show Kd.M Kd.string _ _ _ (⟨#[27,91,51,88]⟩ : ByteArray) [.string (⟨#[27,91,51,88]⟩ : ByteArray)] from rfl) (Reps.one (show Kd.M Kd.string _ _ _ (⟨#[27,91,83]⟩ : ByteArray) [.string (⟨#[27,91,83]⟩ : ByteArray)] from rfl) (Reps.one (show Kd.M Kd.string _ _ _ (⟨#[27,91,84]⟩ : ByteArray) [.string (⟨#[27,91,84]⟩ : ByteArray)] from rfl) (Reps.one (show Kd.M Kd.string _ _ _ (⟨#[27,91,50,59,52,114]⟩ : ByteArray) [.string (⟨#[27,91,50,59,52,114]⟩ : ByteArray)] from rfl) (Reps.one (show Kd.M Kd.string _ _ _ (⟨#[27,91,114]⟩ : ByteArray) [.string (⟨#[27,91,114]⟩ : ByteArray)] from rfl) (Reps.one (show Kd.M Kd.string _ _ _ (⟨#[27,77]⟩ : ByteArray) [.string (⟨#[27,77]⟩ : ByteArray)] from rfl) (Reps.one (show Kd.M Kd.string _ _ _ (⟨#[27,68]⟩ : ByteArray) [.string (⟨#[27,68]⟩ : ByteArray)] from rfl) (Reps.one (show Kd.M Kd.string _ _ _ (⟨#[27,69]⟩ : ByteArray) [.string (⟨#[27,69]⟩ : ByteArray)] from rfl) (Reps.one (show Kd.M Kd.string _ _ _ (⟨#[27,55]⟩ : ByteArray) [.string (⟨#[27,55]⟩ : ByteArray)] from rfl) (Reps.one (show Kd.M Kd.string _ _ _ (⟨#[27,56]⟩ : ByteArray) [.string (⟨#[27,56]⟩ : ByteArray)] from rfl) (Reps.one (show Kd.M Kd.string _ _ _ (⟨#[27,99]⟩ : ByteArray) [.string (⟨#[27,99]⟩ : ByteArray)] from rfl) (Reps.one (show Kd.M Kd.string _ _ _ (⟨#[27,72]⟩ : ByteArray) [.string (⟨#[27,72]⟩ : ByteArray)] from rfl) (Reps.one (show Kd.M Kd.string _ _ _ (⟨#[27,91,103]⟩ : ByteArray) [.string (⟨#[27,91,103]⟩ : ByteArray)] from rfl) (Reps.one (show Kd.M Kd.string _ _ _ (⟨#[27,91,51,103]⟩ : ByteArray) [.string (⟨#[27,91,51,103]⟩ : ByteArray)] from rfl) (Reps.one (show Kd.M Kd.string _ _ _ (⟨#[27,91,49,59,51,49,109]⟩ : ByteArray) [.string (⟨#[27,91,49,59,51,49,109]⟩ : ByteArray)] from rfl) (Reps.one (show Kd.M Kd.string _ _ _ (⟨#[27,91,48,59,52,59,52,55,109]⟩ : ByteArray) [.string (⟨#[27,91,48,59,52,59,52,55,109]⟩ : ByteArray)] from rfl) (Reps.one (show Kd.M Kd.string _ _ _ (⟨#[27,91,109]⟩ : ByteArray) [.string (⟨#[27,91,109]⟩ : ByteArray)] from rfl) (Reps.one (show Kd.M Kd.string _ _ _ (⟨#[27,91,63,55,108]⟩ : ByteArray) [.string (⟨#[27,91,63,55,108]⟩ : ByteArray)] from rfl) (Reps.one (show Kd.M Kd.string _ _ _ (⟨#[27,91,63,55,104]⟩ : ByteArray) [.string (⟨#[27,91,63,55,104]⟩ : ByteArray)] from rfl) (Reps.one (show Kd.M Kd.string _ _ _ (⟨#[27,91,63,50,53,108]⟩ : ByteArray) [.string (⟨#[27,91,63,50,53,108]⟩ : ByteArray)] from rfl) (Reps.one (show Kd.M Kd.string _ _ _ (⟨#[27,91,63,49,48,52,57,104]⟩ : ByteArray) [.string (⟨#[27,91,63,49,48,52,57,104]⟩ : ByteArray)] from rfl) (Reps.one (show Kd.M Kd.string _ _ _ (⟨#[27,91,63,49,48,52,57,108]⟩ : ByteArray) [.string (⟨#[27,91,63,49,48,52,57,108]⟩ : ByteArray)] from rfl) (Reps.one (show Kd.M Kd.string _ _ _ (⟨#[27,91,53,71]⟩ : ByteArray) [.string (⟨#[27,91,53,71]⟩ : ByteArray)] from rfl) (Reps.one (show Kd.M Kd.string _ _ _ (⟨#[27,91,50,100]⟩ : ByteArray) [.string (⟨#[27,91,50,100]⟩ : ByteArray)] from rfl) (Reps.one (show Kd.M Kd.string _ _ _ (⟨#[27,93,48,59,116,7]⟩ : ByteArray) [.string (⟨#[27,93,48,59,116,7]⟩ : ByteArray)] from rfl) (Reps.one (show Kd.M Kd.string _ _ _ (⟨#[27,80,49,27,92]⟩ : ByteArray) [.string (⟨#[27,80,49,27,92]⟩ : ByteArray)] from rfl) (Reps.one (show Kd.M Kd.string _ _ _ (⟨#[230]⟩ : ByteArray) [.string (⟨#[230]⟩ : ByteArray)] from rfl) (Reps.one (show Kd.M Kd.string _ _ _ (⟨#[255]⟩ : ByteArray) [.string (⟨#[255]⟩ : ByteArray)] from rfl) (Reps.one (show Kd.M Kd.string _ _ _ (⟨#[27,91]⟩ : ByteArray) [.string (⟨#[27,91]⟩ : ByteArray)] from rfl) (Reps.one (show Kd.M Kd.string _ _ _ (⟨#[27]⟩ : ByteArray) [.string (⟨#[27]⟩ : ByteArray)] from rfl) (Reps.one (show Kd.M Kd.string _ _ _ (⟨#[49,50,59]⟩ : ByteArray) [.string (⟨#[49,50,59]⟩ : ByteArray)] from rfl) (Reps.one (show Kd.M Kd.string _ _ _ (⟨#[24]⟩ : ByteArray) [.string (⟨#[24]⟩ : ByteArray)] from rfl) (Reps.one (show Kd.M Kd.string _ _ _ (⟨#[97,98,99,100,101,102,103,104]⟩ : ByteArray) [.string (⟨#[97,98,99,100,101,102,103,104]⟩ : ByteArray)] from rfl) (Reps.one (show Kd.M Kd.string _ _ _ (⟨#[27,91,57,57,57,57,57,57,57,57,57,57,57,109]⟩ : ByteArray) [.string (⟨#[27,91,57,57,57,57,57,57,57,57,57,57,57,109]⟩ : ByteArray)] from rfl) (Reps.one (show Kd.M Kd.string _ _ _ (⟨#[27,40,66]⟩ : ByteArray) [.string (⟨#[27,40,66]⟩ : ByteArray)] from rfl) (Reps.one (show Kd.M Kd.string _ _ _ (⟨#[27,91,49,58,50,109]⟩ : ByteArray) [.string (⟨#[27,91,49,58,50,109]⟩ : ByteArray)] from rfl) (Reps.one (show Kd.M Kd.string _ _ _ (⟨#[27,91,62,99]⟩ : ByteArray) [.string (⟨#[27,91,62,99]⟩ : ByteArray)] from rfl) (Reps.one (show Kd.M Kd.string _ _ _ (⟨#[195]⟩ : ByteArray) [.string (⟨#[195]⟩ : ByteArray)] from rfl) (Reps.one (show Kd.M Kd.string _ _ _ (⟨#[169]⟩ : ByteArray) [.string (⟨#[169]⟩ : ByteArray)] from rfl) (Reps.one (show Kd.M Kd.string _ _ _ (⟨#[229,173,151,229,173,151]⟩ : ByteArray) [.string (⟨#[229,173,151,229,173,151]⟩ : ByteArray)] from rfl) (Reps.one (show Kd.M Kd.string _ _ _ (⟨#[27,91,33,112]⟩ : ByteArray) [.string (⟨#[27,91,33,112]⟩ : ByteArray)] from rfl) (Reps.one (show Kd.M Kd.string _ _ _ (⟨#[204,129]⟩ : ByteArray) [.string (⟨#[204,129]⟩ : ByteArray)] from rfl) (Reps.one (show Kd.M Kd.string _ _ _ (⟨#[12]⟩ : ByteArray) [.string (⟨#[12]⟩ : ByteArray)] from rfl) (Reps.one (show Kd.M Kd.string _ _ _ (⟨#[127]⟩ : ByteArray) [.string (⟨#[127]⟩ : ByteArray)] from rfl) (Reps.one (show Kd.M Kd.string _ _ _ (⟨#[27,91,59,72]⟩ : ByteArray) [.string (⟨#[27,91,59,72]⟩ : ByteArray)] from rfl) (Reps.one (show Kd.M Kd.string _ _ _ (⟨#[27,91,48,75]⟩ : ByteArray) [.string (⟨#[27,91,48,75]⟩ : ByteArray)] from rfl) (Reps.none _ _)))))))))))))))))))))))))))))))))))))))))))))))))))))))))))))))))))))));intro v1096 w2 ho3 hb hg_ hnew_;clear hg_ hnew_;(rw [← Ny1095.out] at ho3);have n0_:=zA (Kd.R_lower ho3 (below_size HB.out));have n1_:=zA (below_step HB.out hb);clear HB;have HO1097:=n0_;have HB:=n1_;clear n0_ n1_;clear hb ho3));go_loopg [4,5] k (fun kq v4 v5 w'=>∃ (x4_1 : List Int) (x5_1 : Int),v5 = .int .i64 x5_1∧Aside0 (repriseseat_Bytes.l0 kq l0 y1095 x4_1 x5_1 = some r)∧Aside0 (kq ≤ k)∧Aside0 (Kd.R Kd.string 9 w' w.heap.size (fun _=>True) v1096 y1095)∧Aside0 (Kd.R (Kd.int .u8) 5 w' w.heap.size (fun _=>True) v4 x4_1)∧Aside0 (Below w.heap.size w w'))
 case atStart=>exact ⟨(([] : List Int)),(0),(by rfl),H',⟨Nat.le_refl _⟩,⟨HO1097.out⟩,⟨by exact Kd.R_nil _ _ _ _ _⟩,⟨HB.out⟩⟩
 case round =>
  clear H';(try clear p2);(try clear c3);obtain ⟨x4_1,x5_1,rfl,HA,HK1,HO_3,HO_4,HB⟩:=hrel;cases gk with
 |zero=>exact absurd HA.out (by simp [repriseseat_Bytes.l0])
 |succ k1 =>
   have H:=HA.out;clear HA;simp only [repriseseat_Bytes.l0] at H;by_cases c4 : x5_1 < (l0.length : Int)
   ·rw [if_pos c4] at H;have c4b0 : decide (x5_1 < (l0.length : Int)) = true:=zC c4;clear c4;by_cases c5 : 0 ≤ x5_1
    ·rw [if_pos c5] at H;have c5b0 : decide (0 ≤ x5_1) = true:=zC c5;clear c5;by_cases c6 : (y1095.length : Int) = 0
     ·rw [if_pos c6] at H;exact absurd H (by simp)
     ·rw [if_neg c6] at H;have c6b0 : ((y1095.length : Int) == 0) = false:=beq_eq_false_iff_ne.mpr c6;have c6b1 : ((y1095.length : Int) != 0) = true:=bne_iff_ne.mpr c6;have c6b2 : ¬ (y1095 = []):=fun h_=>c6 (by rw [h_];rfl)
      obtain ⟨ji7,hji7⟩ : ∃ j_ : Int,(Int.tmod (wrap64 (rd l0 x5_1)) (y1095.length : Int)) = j_:=⟨_,rfl⟩;replace H : (if 0 ≤ (ji7) then (if (ji7) < (y1095.length : Int) then (if x4_1.length + (rdOf ByteArray.empty y1095 (ji7)).size < 140737488355328 then (repriseseat_Bytes.l0 k1 l0 y1095 (x4_1 ++ bytesOf (rdOf ByteArray.empty y1095 (ji7))) (wrap64 (x5_1 + 1))) else (none)) else (none)) else (none)) = some r:=by (rw [hji7] at H;exact H)
      by_cases c8 : 0 ≤ (ji7)
      ·rw [if_pos c8] at H;have c8b0 : decide (0 ≤ (ji7)) = true:=zC c8;clear c8;by_cases c9 : (ji7) < (y1095.length : Int)
       ·rw [if_pos c9] at H;have c9b0 : decide ((ji7) < (y1095.length : Int)) = true:=zC c9;clear c9;by_cases c10 : x4_1.length + (rdOf ByteArray.empty y1095 (ji7)).size < 140737488355328
        ·rw [if_pos c10] at H;have LMc10:=zA c10;clear c10;obtain ⟨y1100,hy1100⟩ : ∃ y_ : List Int,y_ = (x4_1 ++ bytesOf (rdOf ByteArray.empty y1095 (ji7))):=⟨_,rfl⟩;replace H : (repriseseat_Bytes.l0 k1 l0 y1095 y1100 (wrap64 (x5_1 + 1))) = some r:=by (rw [hy1100];with_reducible exact H)
         have Ny1100:=zA hy1100;clear hy1100;have H':=zA H;clear H;have p1098 : 0 ≤ (x5_1 : Int):=od;have q1098 : x5_1 < (l0.length : Int):=od;obtain ⟨ad1098,e1098,hx1098_0⟩:=Kd.at_int HR0.out x5_1 p1098 q1098;cases e1098;replace hx1098_0:=cx HB hx1098_0;replace p1098:=eq_true p1098;replace q1098:=eq_true q1098;obtain ⟨Ao11,co11,eo11⟩:=Kd.R_slice HO_3.out;subst eo11;have p1099 : 0 ≤ ((ji7) : Int):=od;have q1099 : (ji7) < (y1095.length : Int):=od;obtain ⟨ad1099,e1099,hx1099_0⟩:=Kd.at_string (Kd.R_reads' HO_3.out).2.2 (ji7) p1099 q1099;cases e1099;replace p1099:=eq_true p1099;replace q1099:=eq_true q1099;go_wp2_with ((at_builtin;refine Kd.R_append_str (w0:=w) w.heap.size rfl (.tmp 13) _ 22 9 5 rfl Try.underlying22 Try.underlying9 info5 u4 x4_1 (rdOf ByteArray.empty y1095 (ji7)) (fun _=>True) rfl rfl ?aO ?aF ?aB ?aS ?aL ?_;(case aB=>exact HB.out);(case aF=>exact (fun _ _=>trivial));(case aO=>exact HO_4.out);(case aS=>exact (below_size HB.out));(case aL=>have:=LMc10.out;omega);intro v1101 w12 ho hb hg hat;rw [← Ny1100.out] at ho;have n0_:=zA (Kd.R_over' HO_3.out (Kd.R_typed HO_4.out) (by decide) hg);have n1_:=zA (hb);have n2_:=zA (ho);clear HO_3;clear HB;clear HO_4;have HO_3:=n0_;have HB:=n1_;have HO1102:=n2_;clear n0_ n1_ n2_;clear ho hb hg hat));go_roundg k1
         case measure=>have:=HK1.out;omega
         case rel=>exact ⟨(y1100),(wrap64 (x5_1 + 1)),(by rfl),H',⟨by have:=HK1.out;omega⟩,⟨HO_3.out⟩,⟨HO1102.out⟩,⟨HB.out⟩⟩
        ·rw [if_neg c10] at H;exact absurd H (by simp)
       ·rw [if_neg c9] at H;exact absurd H (by simp)
      ·rw [if_neg c8] at H;exact absurd H (by simp)
    ·rw [if_neg c5] at H;exact absurd H (by simp)
   ·rw [if_neg c4] at H;have c4b0 : decide (x5_1 < (l0.length : Int)) = false:=zD c4;clear c4;obtain rfl:=zY H;go_wp2;go_ret;exact ⟨_,by rfl,HO_4.out,HB.out⟩
-- NOT PRINTED: function 11 (repriseseat_Screen)
end Go.Proofs.Ytooageeehallbaa.QRunsCut
namespace Go.Proofs.Ytooageeehallbaa.Scr
open Go.RowKit Go.Proofs.YtooageeehallbaaW.PrintWords Go.Proofs.YtooageeehallbaaW.PrintLast Go.Proofs.YtooageeehallbaaW.PrintMore Go.Proofs.Ytooageeehallbaa.QRunsCut
set_option linter.unusedVariables false
theorem bytesOf_ok (s : ByteArray) : Bytes8 (bytesOf s):=by
 intro b hb;unfold bytesOf at hb;obtain ⟨u,_,rfl⟩:=List.mem_map.1 hb;have:=u.toNat_lt;omega
theorem bytesOf_len (s : ByteArray) : (bytesOf s).length = s.size:=by
 unfold bytesOf;rw [List.length_map,Array.length_toList];rfl
theorem bytes_run {L : List Int} (hL : Bytes8 L) (hlen : L.length ≤ 1000) (P : List ByteArray) (hP0 : 0 < P.length) (hP1 : P.length ≤ 1000) (hP : ∀ s ∈ P,s.size ≤ 20) : ∀ (m i : Nat) (o : List Int),i + m = L.length → o.length ≤ 20 * i → Bytes8 o → ∃ k o',repriseseat_Bytes.l0 k L P o (i : Int) = some o'∧Bytes8 o'∧o'.length ≤ 20000
|0,i,o,hm,ho,hb=>by
  refine ⟨1,o,?_,hb,by omega⟩;rw [repriseseat_Bytes.l0,if_neg (by omega)]
|m + 1,i,o,hm,ho,hb=>by
  have hx : 0 ≤ rd L (i : Int)∧rd L (i : Int) ≤ 255:=by
   unfold rd;rw [List.getD_eq_getElem?_getD,Int.toNat_natCast,List.getElem?_eq_getElem (by omega)];exact hL _ (List.getElem_mem _)
  have hw : wrap64 (rd L (i : Int)) = rd L (i : Int):=by unfold wrap64;omega
  have h0 : 0 ≤ Int.tmod (rd L (i : Int)) (P.length : Int):=Int.tmod_nonneg _ hx.1;have h1 : Int.tmod (rd L (i : Int)) (P.length : Int) < (P.length : Int):=Int.tmod_lt_of_pos _ (by omega);have hs : (rdOf ByteArray.empty P (Int.tmod (rd L (i : Int)) (P.length : Int))).size ≤ 20:=by
   unfold rdOf;rw [List.getD_eq_getElem?_getD,List.getElem?_eq_getElem (by omega)];exact hP _ (List.getElem_mem _)
  obtain ⟨k,o',hk,ho'⟩:=bytes_run hL hlen P hP0 hP1 hP m (i + 1) (o ++ bytesOf (rdOf ByteArray.empty P (Int.tmod (rd L (i : Int)) (P.length : Int)))) (by omega) (by rw [zV,bytesOf_len];omega) (fun x hx=>(List.mem_append.1 hx).elim (hb x) (bytesOf_ok _ x));refine ⟨k + 1,o',?_,ho'⟩;rw [repriseseat_Bytes.l0,if_pos (by omega),if_pos (by omega),if_neg (by omega),hw,if_pos h0,if_pos h1,if_pos (by omega),show wrap64 ((i : Int) + 1) = (i : Int) + 1 by unfold wrap64;omega];exact hk
theorem bytes_ok {L : List Int} (hL : Bytes8 L) (hlen : L.length ≤ 1000) : ∃ k o,repriseseat_Bytes.f k L = some o∧Bytes8 o∧o.length ≤ 20000:=by
 unfold repriseseat_Bytes.f;exact bytes_run hL hlen _ (by decide) (by decide) (by decide) L.length 0 [] (by omega) (by decide) (fun _ h=>by cases h)
theorem bytes_call {l : Sl} {W : World} {ok : Nat → Prop} (hl : Row (Kd.int .u8) l (fun l=>Bytes8 l∧l.length ≤ 1000) W ok) : Calls Try.prog 38 #[.slice l.A l.n l.c] W fun e w'=>∃ q : Sl,e = .returned (.slice q.A q.n q.c)∧Row (Kd.int .u8) q Bytes8 w' (fun k=>W.heap.size ≤ k)∧Below W.heap.size W w':=by
 obtain ⟨L,hP,hn,hlc,hC⟩:=Row.reads hl;obtain ⟨k,o,hf,ho,_⟩:=bytes_ok hP.1 hP.2;rw [hn];refine (QRunsCut.repriseseat_Bytes.calls k l.A l.c L o W hC hlc hf).mono ?_;rintro e w' ⟨v0,rfl,hR,hbl⟩
 obtain ⟨c0,rfl,h0⟩:=Row.made (P:=Bytes8) hR ho;exact ⟨c0,rfl,h0,hbl⟩
end Go.Proofs.Ytooageeehallbaa.Scr
namespace Go.Proofs.Ytooageeehallbaa.Scr
open Go.RowKit Go.Proofs.YtooageeehallbaaW.PrintWords Go.Proofs.YtooageeehallbaaW.PrintLast Go.Proofs.YtooageeehallbaaW.PrintMore Go.Proofs.Ytooageeehallbaa.QRunsCut
attribute [local go_sem] max2_int min2_int max_two min_two max_three min_three max_four min_four 
set_option linter.unusedVariables false
set_option linter.unusedSimpArgs false
set_option maxHeartbeats 4000000 in
set_option maxRecDepth 100000 in
theorem seat_inv {ok : Nat → Prop} (r c : Int) (hr : 0 ≤ r∧r ≤ 255) (hc : 0 ≤ c∧c ≤ 255) (bl : Sl) (w : World) (hl : Row (Kd.int .u8) bl (fun l=>Bytes8 l∧l.length ≤ 1000) w ok) :
 Calls Try.prog 11 #[.int .u8 r,.int .u8 c,.slice bl.A bl.n bl.c] w (fun e w'=>∃ s',e = .returned (.agg (Scr.cs s'))∧Inv (r % 6 + 1) (c % 9 + 1) s' w' (fun k=>ok k∨w.heap.size ≤ k)∧Below w.heap.size w w'):=by
 have HB:=zA (zE w.heap.size w);have HL:=zA (mvRow.enter hl (n:=w.heap.size) rfl);clear hl;have hsm : Aside0 (Small (r % 6 + 1) (c % 9 + 1)):=⟨⟨by omega,by omega,by omega,by omega⟩⟩;have e1 : wrap64 (wrap64 (Int.tmod r 6) + 1) = r % 6 + 1:=by
  rw [Int.tmod_eq_emod_of_nonneg hr.1];unfold wrap64;omega
 have e2 : wrap64 (wrap64 (Int.tmod c 9) + 1) = c % 9 + 1:=by
  rw [Int.tmod_eq_emod_of_nonneg hc.1];unfold wrap64;omega
 have hsm2 : Aside0 (Small (wrap64 (wrap64 (Int.tmod r 6) + 1)) (wrap64 (wrap64 (Int.tmod c 9) + 1))):=⟨by rw [e1,e2];exact hsm.out⟩;replace hr:=zA hr;replace hc:=zA hc;go_enter Try.func11,Try.ntmps11
 go_wp2_with (first|((with_reducible refine zG (N:=6) rfl ?_);refine bx_alloc (t:=31) (n:=w.heap.size) (cs:=Scr.zero.cs) rfl rfl rfl Scr.infoz HB.out.size ?_;intro g6 w6 hN hg bx;replace HB:=zA (zL HB.out HB.out.size hg);replace HL:=zA (mvRow.fresh HL.out hN hg);have BX6:=zA bx;clear hN hg bx)|((with_reducible refine zG (N:=18) rfl ?_);refine goesL_ (some 18) rfl rfl Try.func36 (by kernel_rfl) rfl _ rfl rfl ?_;(try simp only [zS,zT,zU]);refine Calls.mono (new_inv _ _ _ hsm2.out) ?_;rintro e w18 ⟨s_,rfl,NI0,hb⟩;rw [e1,e2] at NI0;have HI:=zA (mvInv.new (ok:=ok) (n:=w.heap.size) (gs:=[g6]) NI0 HB.out.size (by simp only [zW,List.not_mem_nil,or_false];rintro g_ rfl;exact BX6.out.lt));clear NI0;replace BX6:=zA (zM BX6.out hb);replace HL:=zA (mvRow.call HL.out hb);replace HB:=zA (zJ HB.out HB.out.size hb);clear hb;refine ⟨_,rfl,?_⟩)|((with_reducible refine zG (N:=7) rfl ?_);refine bx_alloc (t:=31) (n:=w.heap.size) (cs:=Scr.zero.cs) rfl rfl rfl Scr.infoz HB.out.size ?_;intro g7 w7 hN hg bx;replace HB:=zA (zL HB.out HB.out.size hg);have NE6_7:=zA (show g6 ≠ g7 from by have:=BX6.out.lt;omega);have NE7_6:=zA (Ne.symm NE6_7.out);replace BX6:=zA (zO BX6.out hg);replace HL:=zA (mvRow.fresh HL.out hN hg);(try replace HI:=zA (mvInv.fresh HI.out hN hg));have BX7:=zA bx;clear hN hg bx)|((with_reducible refine zH (t:=31) (p:=7) rfl ?_);refine bx_store BX7.out rfl rfl rfl rfl (cs':=Scr.cs _) rfl (Scr.sizes _) rfl (Scr.all _) ?_;intro w_19 hg bx;replace HB:=zA (zK HB.out BX7.out hg);replace BX6:=zA (zN BX6.out hg NE6_7.out);replace HL:=zA (mvRow.grown HL.out hg (by simp));(try replace HI:=zA (mvInv.grown HI.out hg (by simp)));clear BX7;have BX7:=zA bx;clear bx hg));have hb : Below w_19.heap.size w_19 w_19.drew:=(zE _ _).drew;replace BX6:=zA (zM BX6.out hb);replace BX7:=zA (zM BX7.out hb);replace HL:=zA (mvRow.call HL.out hb);(try replace HI:=zA (mvInv.call HI.out hb));replace HB:=zA (zJ HB.out HB.out.size hb);clear hb;refine start_ (n:=5) (S:=fun w'=>w'.heap[g7]? = some (.cells s_.cs 31 (0,0))) (ds:=[3,4]) #[false,false,false,false,false] (by kernel_rfl) rfl rfl BX7.out.bx (fun hHeld=>?_);generalize World.drew w_19 = wD at HB BX6 BX7 HL HI hHeld ⊢;refine pure_ (i:=1) (N:=(some 22)) (v:=?_) (a':=?_) #[false,true,false,false,false] rfl rfl (by kernel_rfl) (fun _ _ _ h=>h) (Or.inl ⟨by rfl,?_⟩) ?_ ?_;rotate_left
 ·intro w';go_simp;(with_reducible rfl)
 rotate_left
 ·simp only [Act.put,zP,zQ,zR,i64_w,i32_w];rfl
 refine take_ (i:=0) (N:=(some 21)) (v:=(.agg s_.cs)) (a':=?_) #[true,true,false,false,false] rfl rfl (by kernel_rfl) (fun _ _ _ h=>h) (Or.inl ⟨by rfl,?_⟩) hHeld ?_ ?_
 ·rintro w' hs0_
  exact bx_yieldw hs0_ rfl rfl Try.underlying31 rfl (Scr.sizes s_)
 rotate_left
 ·simp only [Act.put,zP,zQ,zR,i64_w,i32_w];rfl
 refine one_ (i:=2) (N:=(some 23)) #[true,true,true,false,false] rfl rfl (by kernel_rfl) (by decide) (fun K hK=>?_);refine goes_ Try.func38 (by kernel_rfl) rfl _ (by rfl) rfl rfl rfl ?_;(try simp only [zS,zT,zU]);refine Calls.mono (bytes_call HL.out) ?_;rintro e w23 ⟨q_,rfl,NQ0,hb⟩
 refine ⟨_,rfl,?_⟩;have NQ:=zA (mvRow.new (ok:=ok) (n:=w.heap.size) (gs:=[g7,g6]) NQ0 HB.out.size (by simp only [zW,List.not_mem_nil,or_false];rintro g_ hg_;rcases hg_ with rfl|rfl <;> first|exact BX6.out.lt|exact BX7.out.lt));clear NQ0;replace BX6:=zA (zM BX6.out hb);replace BX7:=zA (zM BX7.out hb);replace HL:=zA (mvRow.call HL.out hb);(try replace HI:=zA (mvInv.call HI.out hb));replace HB:=zA (zJ HB.out HB.out.size hb);clear hb;refine hK.out _ _ BX7.out.bx (fun hHeld=>?_);clear hK K;refine norm_ (a':=?_) ?_ ?_;rotate_left
 ·show Act.put _ (some 23) _ = _
  simp only [Act.put,zP,zQ,zR,i64_w,i32_w];rfl
 refine last_ (i:=3) (N:=(some 24)) #[true,true,true,true,false] rfl rfl (by kernel_rfl) (by decide) (fun K hK=>?_);refine goes_ Try.func37 (by kernel_rfl) rfl _ (by rfl) rfl rfl rfl ?_;(try simp only [zS,zT,zU]);refine Calls.mono (feed_inv _ _ _ HI.out NQ.out) ?_;rintro e w24 ⟨s2,rfl,NI0,hb⟩
 refine ⟨_,rfl,?_⟩;have NI:=zA (mvInv.back (ok:=ok) (n:=w.heap.size) (gs:=[g7,g6]) NI0 HB.out.size (by simp only [zW,List.not_mem_nil,or_false];rintro g_ hg_;rcases hg_ with rfl|rfl <;> first|exact BX6.out.lt|exact BX7.out.lt));clear NI0;replace BX6:=zA (zM BX6.out hb);replace BX7:=zA (zM BX7.out hb);replace HL:=zA (mvRow.call HL.out hb);(try replace HI:=zA (mvInv.call HI.out hb));(try replace NQ:=zA (mvRow.call NQ.out hb));replace HB:=zA (zJ HB.out HB.out.size hb);clear hb;refine hK.out _ _ ?_;clear hK K;refine norm_ (a':=?_) ?_ ?_;rotate_left
 ·show Act.put _ (some 24) _ = _
  simp only [Act.put,zP,zQ,zR,i64_w,i32_w];rfl
 refine last_ (i:=4) (N:=none) #[true,true,true,true,true] rfl rfl (by kernel_rfl) (by decide) (fun K hK=>?_);refine bx_store_if BX6.out (by rfl) rfl rfl rfl (cs':=Scr.cs s2) rfl (Scr.sizes _) rfl (Scr.all _) ?_;intro w25 hg bx;replace HB:=zA (zK HB.out BX6.out hg);replace BX7:=zA (zN BX7.out hg NE7_6.out);replace HL:=zA (mvRow.grown HL.out hg (by simp));(try replace HI:=zA (mvInv.grown HI.out hg (by simp)));(try replace NQ:=zA (mvRow.grown NQ.out hg (by simp)));(try replace NI:=zA (mvInv.grown NI.out hg (by simp)));clear BX6;have BX6:=zA bx;clear bx hg;refine hK.out _ _ ?_;clear hK K;refine done_ (by kernel_rfl) ?_;go_wp2_with ((refine bx_ret rfl BX6.out rfl Try.underlying31 rfl (Scr.sizes _) ?_));exact ⟨s2,rfl,mvInv.out (n:=w.heap.size) (gs:=[g7,g6]) NI.out,HB.out⟩
end Go.Proofs.Ytooageeehallbaa.Scr
namespace Go.Proofs.Ytooageeehallbaa.QRunsCut
open Go.RowKit Go.Proofs.YtooageeehallbaaW.PrintWords Go.Proofs.YtooageeehallbaaW.PrintLast Go.Proofs.YtooageeehallbaaW.PrintMore
attribute [local go_sem] max2_int min2_int max_two min_two max_three min_three max_four min_four 
set_option linter.unusedVariables false
set_option linter.unusedSimpArgs false
/-! ### leb_Read: function 59 -/
/-! ### runs_run: function 49 -/
end Go.Proofs.Ytooageeehallbaa.QRunsCut
namespace Go.Proofs.Ytooageeehallbaa.Scr
open Go.RowKit Go.Proofs.YtooageeehallbaaW.PrintWords Go.Proofs.YtooageeehallbaaW.PrintLast Go.Proofs.YtooageeehallbaaW.PrintMore Go.Proofs.Ytooageeehallbaa.QRunsCut
attribute [local go_sem] max2_int min2_int max_two min_two max_three min_three max_four min_four 
set_option linter.unusedVariables false
set_option linter.unusedSimpArgs false
end Go.Proofs.Ytooageeehallbaa.Scr
namespace Go.Proofs.Ytooageeehallbaa.QRunsCut
open Go.RowKit Go.Proofs.YtooageeehallbaaW.PrintWords Go.Proofs.YtooageeehallbaaW.PrintLast Go.Proofs.YtooageeehallbaaW.PrintMore Scr
set_option linter.unusedSimpArgs false
set_option linter.unusedVariables false
attribute [local go_sem] max2_int min2_int max_two min_two max_three min_three max_four min_four
end Go.Proofs.Ytooageeehallbaa.QRunsCut
namespace Go.Proofs.Ytooageeehallbaa.QRunsCut
open Go.RowKit Go.Proofs.YtooageeehallbaaW.PrintWords Go.Proofs.YtooageeehallbaaW.PrintLast Go.Proofs.YtooageeehallbaaW.PrintMore
attribute [local go_sem] max2_int min2_int max_two min_two max_three min_three max_four min_four 
set_option linter.unusedVariables false
set_option linter.unusedSimpArgs false
/-! ### runs_Right: function 19 -/
end Go.Proofs.Ytooageeehallbaa.QRunsCut
namespace Go.Proofs.Ytooageeehallbaa.QRunsCut
open Go.RowKit Go.Proofs.YtooageeehallbaaW.PrintWords Go.Proofs.YtooageeehallbaaW.PrintLast Go.Proofs.YtooageeehallbaaW.PrintMore
attribute [local go_sem] max2_int min2_int max_two min_two max_three min_three max_four min_four   -- for this text's walks alone
set_option linter.unusedVariables false
set_option linter.unusedSimpArgs false
theorem eqA35 (d : Nat) (w : World) (x0 y0 : Int) (x1 y1 : Int) (x2 y2 : Int) :
 (Op.equalIn (d + 2) 35 (.agg #[.int .i32 x0,.int .u16 x1,.int .u8 x2]) (.agg #[.int .i32 y0,.int .u16 y1,.int .u8 y2])).run Try.prog w = .ok (x0 == y0 && (x1 == y1 && (x2 == y2))) w:=by
 refine eqA_of Try.underlying35 (by kernel_rfl) ?_;refine eqf_cons (by rfl) (by go_simp;rfl) (by go_simp;rfl) (by go_simp) ?_;refine eqf_cons (by rfl) (by go_simp;rfl) (by go_simp;rfl) (by go_simp) ?_;exact eqf_last (by rfl) (by go_simp;rfl) (by go_simp;rfl) (by go_simp)
end Go.Proofs.Ytooageeehallbaa.QRunsCut
namespace Go.Proofs.Ytooageeehallbaa.QRunsCut
open Go.RowKit Go.Proofs.YtooageeehallbaaW.PrintWords Go.Proofs.YtooageeehallbaaW.PrintLast Go.Proofs.YtooageeehallbaaW.PrintMore
attribute [local go_sem] max2_int min2_int max_two min_two max_three min_three max_four min_four 
set_option linter.unusedVariables false
set_option linter.unusedSimpArgs false
attribute [local go_sem high] eqA35
/-! ### runs_Read: function 21 -/
end Go.Proofs.Ytooageeehallbaa.QRunsCut
namespace Go.Proofs.Ytooageeehallbaa.QRunsCut
open Go.RowKit Go.Proofs.YtooageeehallbaaW.PrintWords Go.Proofs.YtooageeehallbaaW.PrintLast Go.Proofs.YtooageeehallbaaW.PrintMore
attribute [local go_sem] max2_int min2_int max_two min_two max_three min_three max_four min_four 
set_option linter.unusedVariables false
set_option linter.unusedSimpArgs false
/-! ### leb_Put: function 46 -/
end Go.Proofs.Ytooageeehallbaa.QRunsCut
namespace Go.Proofs.Ytooageeehallbaa.QRunsCut
open Go.RowKit Go.Proofs.YtooageeehallbaaW.PrintWords Go.Proofs.YtooageeehallbaaW.PrintLast Go.Proofs.YtooageeehallbaaW.PrintMore
attribute [local go_sem] max2_int min2_int max_two min_two max_three min_three max_four min_four 
attribute [local go_sem high] eqA35
set_option linter.unusedVariables false
set_option linter.unusedSimpArgs false
/-! ### runs_Put: function 17 -/
end Go.Proofs.Ytooageeehallbaa.QRunsCut
namespace Go.Proofs.Ytooageeehallbaa.Leb
open Go.RowKit
/-- a number's bytes -/
def enc (n : Nat) : List Int:=if n < 128 then [(n : Int)] else ((n % 128 + 128 : Nat) : Int) :: enc (n / 128)
termination_by n
decreasing_by omega
end Go.Proofs.Ytooageeehallbaa.Leb
namespace Go.Proofs.Ytooageeehallbaa.Zig
open Go.RowKit
theorem w64_id (n : Int) (h1 : -9223372036854775808 ≤ n) (h2 : n < 9223372036854775808) : wrap64 n = n:=by unfold wrap64;omega
theorem wf_u8 {a : Int} (h : (Lit.int .u8 a).wf = true) : 0 ≤ a∧a ≤ 255:=by
 simp [Lit.wf,IntKind.min,IntKind.max,IntKind.signed,IntKind.bits] at h;omega
end Go.Proofs.Ytooageeehallbaa.Zig
namespace Go.Proofs.Ytooageeehallbaa.Leb
open Go.RowKit
end Go.Proofs.Ytooageeehallbaa.Leb
namespace Go.Proofs.Ytooageeehallbaa.QRunsCut
open Go.RowKit Go.Proofs.YtooageeehallbaaW.PrintWords Go.Proofs.YtooageeehallbaaW.PrintLast Go.Proofs.YtooageeehallbaaW.PrintMore
end Go.Proofs.Ytooageeehallbaa.QRunsCut
namespace Go.Proofs.Ytooageeehallbaa.Runs
open Go.RowKit Go.Proofs.YtooageeehallbaaW.PrintWords Go.Proofs.YtooageeehallbaaW.PrintLast Go.Proofs.YtooageeehallbaaW.PrintMore Go.Proofs.Ytooageeehallbaa.QRunsCut Go.Proofs.Ytooageeehallbaa.Scr
set_option linter.unusedVariables false
set_option linter.unusedSimpArgs false
def encRun (n : Nat) (c : S35) : List Int:=Leb.enc n ++ (Leb.enc c.f0.toNat ++ Leb.enc (c.f1 * 4 + c.f2).toNat)
inductive Runs : List S35 → List Int → Prop
|nil : Runs [] []
|cons (n : Nat) (c : S35) {r : List S35} {b : List Int} : 1 ≤ n → (∀ d t,r = d :: t → d ≠ c) → Runs r b → Runs (List.replicate n c ++ r) (encRun n c ++ b)
theorem w64 (n : Int) (h1 : -9223372036854775808 ≤ n) (h2 : n < 9223372036854775808) : wrap64 n = n:=Zig.w64_id n h1 h2
end Go.Proofs.Ytooageeehallbaa.Runs
namespace Go.Proofs.Ytooageeehallbaa.QRunsCut
open Go.RowKit Go.Proofs.YtooageeehallbaaW.PrintWords Go.Proofs.YtooageeehallbaaW.PrintLast Go.Proofs.YtooageeehallbaaW.PrintMore
attribute [local go_sem] max2_int min2_int max_two min_two max_three min_three max_four min_four 
attribute [local go_sem high] eqA35
set_option linter.unusedVariables false
set_option linter.unusedSimpArgs false
/-! ### repriseref7_SameCells: function 15 -/
def repriseref7_SameCells.l0 : Nat → List (S35) → List (S35) → Int → Option (Bool)
|0,_,_,_=>none
|k + 1,x0,x1,x5=>if x5 < (x0.length : Int) then (if 0 ≤ x5 then (if x5 < (x1.length : Int) then (if (!(((rd_T35 x0 x5).f0) == ((rd_T35 x1 x5).f0)) || (!(((rd_T35 x0 x5).f1) == ((rd_T35 x1 x5).f1)) || (!(((rd_T35 x0 x5).f2) == ((rd_T35 x1 x5).f2))))) = true then (some false) else (repriseref7_SameCells.l0 k x0 x1 (wrap64 (x5 + 1)))) else (none)) else (none)) else (some true)
def repriseref7_SameCells.f (k : Nat) (l0 : List (S35)) (l1 : List (S35)) : Option (Bool):=if (l0.length : Int) = (l1.length : Int) then (repriseref7_SameCells.l0 k l0 l1 0) else (some false)
theorem repriseref7_SameCells.mono_l : ∀ k,(∀ y0 y1 y2,LeO (repriseref7_SameCells.l0 k y0 y1 y2) (repriseref7_SameCells.l0 (k + 1) y0 y1 y2))
|0=>fun _ _ _ r h=>by simp [repriseref7_SameCells.l0] at h
|k + 1=>by
  have ih0:=repriseref7_SameCells.mono_l k
  ·intro y0 y1 y2;unfold repriseref7_SameCells.l0;repeat' first
  |(with_reducible exact ih0 _ _ _)
  |(with_reducible exact LeO.refl _)
  |(with_reducible exact LeO.none _)
  |(with_reducible refine LeO.ite ?_ ?_)
  |(with_reducible refine LeO.bind ?_ (fun _=>?_))
  |exact ih0 _ _ _
  |exact LeO.none _
  |refine LeO.ite ?_ ?_
  |refine LeO.bind ?_ (fun _=>?_)
theorem repriseref7_SameCells.mono : ∀ a0 a1 k,LeO (repriseref7_SameCells.f k a0 a1) (repriseref7_SameCells.f (k + 1) a0 a1):=by
 intro a0 a1 k;have ih0:=repriseref7_SameCells.mono_l k;unfold repriseref7_SameCells.f;repeat' first
 |(with_reducible exact ih0 _ _ _)
 |(with_reducible exact LeO.refl _)
 |(with_reducible exact LeO.none _)
 |(with_reducible refine LeO.ite ?_ ?_)
 |(with_reducible refine LeO.bind ?_ (fun _=>?_))
 |exact ih0 _ _ _
 |exact LeO.none _
 |refine LeO.ite ?_ ?_
 |refine LeO.bind ?_ (fun _=>?_)
set_option maxHeartbeats 8000000 in
set_option maxRecDepth 100000 in
theorem repriseref7_SameCells.calls (k : Nat) (A0 : Option Addr) (c0 : Nat) (l0 : List (S35)) (A1 : Option Addr) (c1 : Nat) (l1 : List (S35)) (r : Bool) (w : World) (hr0 : Kd.C k35 w A0 l0.length l0) (hc0 : l0.length ≤ c0) (hr1 : Kd.C k35 w A1 l1.length l1) (hc1 : l1.length ≤ c1) (h : repriseref7_SameCells.f k l0 l1 = some r) :
 Calls Try.prog 15 #[.slice A0 l0.length c0,.slice A1 l1.length c1] w fun e w'=>e = .returned (.bool r)∧Drawn0 w w':=by
 have hu35:=Try.underlying35;have HR0:=zA hr0;have HC0:=zA hc0;clear hr0 hc0;have HR1:=zA hr1;have HC1:=zA hc1;clear hr1 hc1;have H : (if (l0.length : Int) = (l1.length : Int) then (repriseref7_SameCells.l0 k l0 l1 0) else (some false)) = some r:=h;clear h;by_cases c3 : (l0.length : Int) = (l1.length : Int)
 ·rw [if_pos c3] at H;have c3b0 : ((l0.length : Int) == (l1.length : Int)) = true:=beq_iff_eq.mpr c3;have c3b1 : ((l0.length : Int) != (l1.length : Int)) = false:=bne_eq_false_iff_eq.mpr c3;have c3b2 : (l0.length == l1.length) = true:=by (simp at c3 ⊢;omega)
  clear c3;have H':=zA H;clear H;go_enter Try.func15,Try.ntmps15
  go_wp2;repeat (go_quiet (fail);try go_wp2)
  go_loopg [5] k (fun kq v5 w'=>∃ (x5_1 : Int),v5 = .int .i64 x5_1∧Aside0 (repriseref7_SameCells.l0 kq l0 l1 x5_1 = some r)∧Aside0 (kq ≤ k)∧Drawn0 w w')
  case atStart=>exact ⟨(0),(by rfl),H',⟨Nat.le_refl _⟩,by exact Drawn0.refl _⟩
  case round =>
   clear H';(try clear c1);(try clear p2);(try clear c3);(try clear c3b0);(try clear c3b1);(try clear c3b2);obtain ⟨x5_1,rfl,HA,HK1,⟨m1,rfl⟩⟩:=hrel;cases gk with
  |zero=>exact absurd HA.out (by simp [repriseref7_SameCells.l0])
  |succ k1 =>
    have H:=HA.out;clear HA;simp only [repriseref7_SameCells.l0] at H;by_cases c4 : x5_1 < (l0.length : Int)
    ·rw [if_pos c4] at H;have c4b0 : decide (x5_1 < (l0.length : Int)) = true:=zC c4;clear c4;by_cases c5 : 0 ≤ x5_1
     ·rw [if_pos c5] at H;have c5b0 : decide (0 ≤ x5_1) = true:=zC c5;clear c5;by_cases c6 : x5_1 < (l1.length : Int)
      ·rw [if_pos c6] at H;have c6b0 : decide (x5_1 < (l1.length : Int)) = true:=zC c6;clear c6;by_cases c7 : (!(((rd_T35 l0 x5_1).f0) == ((rd_T35 l1 x5_1).f0)) || (!(((rd_T35 l0 x5_1).f1) == ((rd_T35 l1 x5_1).f1)) || (!(((rd_T35 l0 x5_1).f2) == ((rd_T35 l1 x5_1).f2))))) = true
       ·rw [if_pos c7] at H;have c7b0 : (!(((rd_T35 l0 x5_1).f0) == ((rd_T35 l1 x5_1).f0)) || (!(((rd_T35 l0 x5_1).f1) == ((rd_T35 l1 x5_1).f1)) || (!(((rd_T35 l0 x5_1).f2) == ((rd_T35 l1 x5_1).f2))))) = true:=c7;clear c7;obtain rfl:=zY H;have p1104 : 0 ≤ (x5_1 : Int):=od;have q1104 : x5_1 < (l0.length : Int):=od;obtain ⟨ad1104,e1104,hx1104_0,hx1104_1,hx1104_2⟩:=at_T35 HR0.out x5_1 p1104 q1104;cases e1104;replace p1104:=eq_true p1104;replace q1104:=eq_true q1104;have p1105 : 0 ≤ (x5_1 : Int):=od;have q1105 : x5_1 < (l1.length : Int):=od;obtain ⟨ad1105,e1105,hx1105_0,hx1105_1,hx1105_2⟩:=at_T35 HR1.out x5_1 p1105 q1105;cases e1105;replace p1105:=eq_true p1105;replace q1105:=eq_true q1105;go_wp2;repeat (go_quiet (fail);try go_wp2)
        go_ret;exact ⟨by rfl,by repeat (first|exact Drawn0.refl _|apply Drawn0.step)⟩
       ·rw [if_neg c7] at H;have c7b0 : (!(((rd_T35 l0 x5_1).f0) == ((rd_T35 l1 x5_1).f0)) || (!(((rd_T35 l0 x5_1).f1) == ((rd_T35 l1 x5_1).f1)) || (!(((rd_T35 l0 x5_1).f2) == ((rd_T35 l1 x5_1).f2))))) = false:=by simpa using c7
        clear c7;have H':=zA H;clear H;have p1104 : 0 ≤ (x5_1 : Int):=od;have q1104 : x5_1 < (l0.length : Int):=od;obtain ⟨ad1104,e1104,hx1104_0,hx1104_1,hx1104_2⟩:=at_T35 HR0.out x5_1 p1104 q1104;cases e1104;replace p1104:=eq_true p1104;replace q1104:=eq_true q1104;have p1105 : 0 ≤ (x5_1 : Int):=od;have q1105 : x5_1 < (l1.length : Int):=od;obtain ⟨ad1105,e1105,hx1105_0,hx1105_1,hx1105_2⟩:=at_T35 HR1.out x5_1 p1105 q1105;cases e1105;replace p1105:=eq_true p1105;replace q1105:=eq_true q1105;go_wp2;repeat (go_quiet (fail);try go_wp2)
        go_roundg k1
        case measure=>have:=HK1.out;omega
        case rel=>exact ⟨(wrap64 (x5_1 + 1)),(by rfl),H',⟨by have:=HK1.out;omega⟩,by repeat (first|exact Drawn0.refl _|apply Drawn0.step)⟩
      ·rw [if_neg c6] at H;exact absurd H (by simp)
     ·rw [if_neg c5] at H;exact absurd H (by simp)
    ·rw [if_neg c4] at H;have c4b0 : decide (x5_1 < (l0.length : Int)) = false:=zD c4;clear c4;obtain rfl:=zY H;go_wp2;repeat (go_quiet (fail);try go_wp2)
     go_ret;exact ⟨by rfl,by repeat (first|exact Drawn0.refl _|apply Drawn0.step)⟩
 ·rw [if_neg c3] at H;have c3b0 : ((l0.length : Int) == (l1.length : Int)) = false:=beq_eq_false_iff_ne.mpr c3;have c3b1 : ((l0.length : Int) != (l1.length : Int)) = true:=bne_iff_ne.mpr c3;have c3b2 : (l0.length == l1.length) = false:=by (simp at c3 ⊢;omega)
  obtain rfl:=zY H;go_enter Try.func15,Try.ntmps15
  go_wp2;repeat (go_quiet (fail);try go_wp2)
  go_ret;exact ⟨by rfl,by exact Drawn0.refl _⟩
end Go.Proofs.Ytooageeehallbaa.QRunsCut
namespace Go.Proofs.Ytooageeehallbaa.QRunsCut
open Go.RowKit Go.Proofs.YtooageeehallbaaW.PrintWords Go.Proofs.YtooageeehallbaaW.PrintLast Go.Proofs.YtooageeehallbaaW.PrintMore
attribute [local go_sem] max2_int min2_int max_two min_two max_three min_three max_four min_four 
set_option linter.unusedVariables false
set_option linter.unusedSimpArgs false
/-! ### repriselaw6_known: function 16 -/
end Go.Proofs.Ytooageeehallbaa.QRunsCut
namespace Go.Proofs.Ytooageeehallbaa.Runs
open Go.RowKit Go.Proofs.YtooageeehallbaaW.PrintWords Go.Proofs.YtooageeehallbaaW.PrintLast Go.Proofs.YtooageeehallbaaW.PrintMore Go.Proofs.Ytooageeehallbaa.QRunsCut Go.Proofs.Ytooageeehallbaa.Scr
set_option linter.unusedVariables false
set_option linter.unusedSimpArgs false
end Go.Proofs.Ytooageeehallbaa.Runs
namespace Go.Proofs.Ytooageeehallbaa
open Go.RowKit
namespace Leb
end Leb
end Go.Proofs.Ytooageeehallbaa
namespace Go.Proofs.Ytooageeehallbaa.Runs
open Go.RowKit Go.Proofs.YtooageeehallbaaW.PrintWords Go.Proofs.YtooageeehallbaaW.PrintLast Go.Proofs.YtooageeehallbaaW.PrintMore Go.Proofs.Ytooageeehallbaa.QRunsCut Go.Proofs.Ytooageeehallbaa.Scr
end Go.Proofs.Ytooageeehallbaa.Runs
namespace Go.Proofs.Ytooageeehallbaa.Scr
open Go.RowKit Go.Proofs.YtooageeehallbaaW.PrintWords Go.Proofs.YtooageeehallbaaW.PrintLast Go.Proofs.YtooageeehallbaaW.PrintMore Go.Proofs.Ytooageeehallbaa.QRunsCut Go.Proofs.Ytooageeehallbaa.Runs
set_option linter.unusedVariables false
set_option linter.unusedSimpArgs false
theorem Row.pin {α : Type} {d : Kd α} {c : Sl} {P : List α → Prop} {W : World} {ok : Nat → Prop} (h : Row d c P W ok) : ∃ l,P l∧c.n = l.length∧c.n ≤ c.c∧Row d c (fun x=>x = l) W ok:=by
 obtain ⟨l,hp,hv⟩:=h;obtain ⟨h1,h2,_⟩:=Kd.V_reads' hv;exact ⟨l,hp,h1,h2,l,rfl,hv⟩
theorem Row.take {α : Type} {d : Kd α} {v : Sl} {x : List α} {W : World} {ok : Nat → Prop} (h : Row d v (fun y=>y = x) W ok) {j : Nat} (hj : j ≤ x.length) : Row d ⟨v.A,j,v.c⟩ (fun y=>y = x.take j) W ok:=by
 obtain ⟨l,rfl,hv⟩:=h;obtain ⟨h1,h2,_⟩:=Kd.V_reads' hv;have hF:=Kd.V_F hv;rw [h1] at hF;have:=Kd.V_mk (e:=0) (base:=0) (c:=v.c) (by rw [List.length_take];omega) (Kd.F_take hF hj);rw [List.length_take,Nat.min_eq_left hj] at this;exact ⟨_,rfl,this⟩
theorem law_row {bl : Sl} {W : World} {ok : Nat → Prop} (h : Row (Kd.int .u8) bl Bytes8 W ok) (hs : bl.n ≤ 30) : Row (Kd.int .u8) bl (fun l=>Bytes8 l∧l.length ≤ 1000) W ok:=by
 obtain ⟨l,hp,hv⟩:=h;obtain ⟨h1,h2,_⟩:=Kd.V_reads' hv;exact ⟨l,⟨hp,by omega⟩,hv⟩
/-- The law's own bytes. -/
theorem law_bytes {a : Option Addr} {len cap : Nat} {zs : List Int} {w : World} (w0 : (a = none∧len = 0∧cap = 0∧zs = [])∨∃ x,a = some x∧len ≤ cap∧cap ≤ maxLen∧zs.length = cap∧(∀ i,i < zs.length → w.cell? (x.add i) = some (.int .u8 (zs.getD i 0)))∧∀ n ∈ zs,(Lit.int .u8 n).wf = true) :
 Row (Kd.int .u8) ⟨a,len,cap⟩ Bytes8 w (fun k=>k < w.heap.size):=by
 obtain ⟨l0,rfl,hr0,hm0,hw0,hc0⟩:=ReadsInt.ofRowC w0;exact ⟨l0,fun x hx=>Zig.wf_u8 (hw0 x hx),Kd.V_mk hc0 (Kd.C_F (Kd.heap_int .u8) (Kd.C_of_reads (d:=(0 : Int)) (h1:=fun _=>rfl) hr0))⟩
theorem law_mod {c : Int} {b : Nat} (h : 0 ≤ c) (hb : 0 < b) : 0 ≤ Int.tmod c (b : Int)∧Int.tmod c (b : Int) < (b : Int):=by
 rw [Int.tmod_eq_emod_of_nonneg h];exact ⟨Int.emod_nonneg _ (by omega),Int.emod_lt_of_pos _ (by omega)⟩
end Go.Proofs.Ytooageeehallbaa.Scr
namespace Go.Proofs.Ytooageeehallbaa.Scr
open Go.RowKit Go.Proofs.YtooageeehallbaaW.PrintWords Go.Proofs.YtooageeehallbaaW.PrintLast Go.Proofs.YtooageeehallbaaW.PrintMore Go.Proofs.Ytooageeehallbaa.QRunsCut
set_option linter.unusedVariables false
set_option linter.unusedSimpArgs false
section
variable {P : Program} {ops rest : List Oper} {Q : Exit → Act → World → Prop} {a : Act} {o : Oper} {W : World} {base : Nat} {ok : Nat → Prop} {g n cap : Nat} {xs : List S35}
theorem R_window (HR : Kd.R k35 35 W base ok (.slice (some ⟨g,0,none⟩) n cap) xs) {d : Nat} {ys : List S35} {vs : List Value} (hv : Reps (Kd.M k35 W base (fun k=>ok k∧some k ≠ some g)) 3 ys vs) (hd : d + ys.length ≤ n) :
 Kd.R k35 35 (W.setCells g (d * 3) vs) base ok (.slice (some ⟨g,0,none⟩) n cap) (xs.take d ++ ys ++ xs.drop (d + ys.length))∧W.grownBy (W.setCells g (d * 3) vs) (some g):=by
 obtain ⟨hok,inner,ho,hr⟩:=HR;obtain ⟨hl,hcase⟩:=ho;rcases hcase with ⟨hv0,_⟩|⟨g',cap',cur,hv0,hb,hh,hnc,hcm,hcs,htake⟩
 ·cases hv0
 ·injection hv0 with e1 e2 e3
  injection e1 with e1
  injection e1 with e1 _ _
  subst e1 e2 e3;have hvl : vs.length = ys.length * 3:=hv.1;have hsz : k35.sz = 3:=rfl;rw [hsz] at hl hcs htake;have hfit : d * 3 + vs.length ≤ cur.size:=by rw [hvl,hcs];omega
  obtain ⟨cur',h3,h4,h5⟩:=setCells_row vs (d * 3) W cur hh hfit;obtain ⟨s1,s2,s3,s4⟩:=setCells_same g vs (d * 3) W;have hg : W.grownBy (W.setCells g (d * 3) vs) (some g):=⟨s1,s2,s3,by rw [s4];exact Nat.le_refl _,fun k _ hk=>setCells_far _ _ k (fun he=>hk (by rw [he]))⟩;have hlen : (xs.take d ++ ys ++ xs.drop (d + ys.length)).length = xs.length:=by
   simp only [zV,List.length_take,List.length_drop];omega
  have hi : inner.length = xs.length * 3:=hl;have mv : ∀ {q : S35} {c : List Value},Kd.M k35 W base (fun k=>ok k∧some k ≠ some g) q c → Kd.M k35 (W.setCells g (d * 3) vs) base (fun k=>ok k∧some k ≠ some g) q c:=by
   intro q c hq;have h1:=k35.M_move (w1:=W.setCells g (d * 3) vs) (fun k hk=>hg.block k hk.2.2.1 hk.1.2) (k35.M_bound hq);exact k35.M_mono (fun k hk=>hk.1) h1
  refine ⟨⟨hok,inner.take (d * 3) ++ vs ++ inner.drop ((d + ys.length) * 3),?_,?_⟩,hg⟩
  ·rw [hlen];show World.ownsRow (W.setCells g (d * 3) vs) base 35 3 (.slice (some ⟨g,0,none⟩) xs.length cap) xs.length _
   refine ⟨by simp only [zV,List.length_take,List.length_drop];omega,.inr ⟨g,cap,cur',rfl,hb,h3,hnc,hcm,by rw [h4,hcs],?_⟩⟩;rw [h5,hvl,← htake];rw [List.take_append,List.take_append,zV,List.length_take,Nat.min_eq_left (show d * 3 ≤ cur.toList.length by rw [Array.length_toList];omega)];rw [List.take_of_length_le (show (cur.toList.take (d * 3)).length ≤ xs.length * 3 by rw [List.length_take];omega)];rw [List.take_of_length_le (show vs.length ≤ xs.length * 3 - d * 3 by rw [hvl];omega)];rw [List.take_take,Nat.min_eq_left (show d * 3 ≤ xs.length * 3 by omega),List.drop_take,hvl,show d * 3 + ys.length * 3 = (d + ys.length) * 3 by omega,show xs.length * 3 - (d + ys.length) * 3 = xs.length * 3 - (d * 3 + ys.length * 3) by omega]
  ·have hr' : Reps (Kd.M k35 W base (fun k=>ok k∧some k ≠ some g)) 3 xs inner:=hr;have h1:=Kd.reps_take (m:=d) hr' (by omega);have h2:=Kd.reps_drop (m:=d + ys.length) hr';exact (Kd.reps_append (Kd.reps_append h1 hv) h2).imp_ (fun _ _ hq=>mv hq)
end
end Go.Proofs.Ytooageeehallbaa.Scr
namespace Go.Proofs.Ytooageeehallbaa.QRunsCut
open Go.RowKit Go.Proofs.YtooageeehallbaaW.PrintWords Go.Proofs.YtooageeehallbaaW.PrintLast Go.Proofs.YtooageeehallbaaW.PrintMore
attribute [local go_sem] max2_int min2_int max_two min_two max_three min_three max_four min_four   -- for this text's walks alone
set_option linter.unusedVariables false
set_option linter.unusedSimpArgs false
/-! ### api_Cell: function 39 -/
def api_Cell.f (l0 : List (S35)) : Option ((List (S35))):=(some (([] : List (S35)) : List (S35))).bind fun y101=>(if y101.length + l0.length < 17592186044416 then (some (y101 ++ l0)) else (none))
set_option maxHeartbeats 8000000 in
set_option maxRecDepth 100000 in
theorem api_Cell.calls (A0 : Option Addr) (c0 : Nat) (l0 : List (S35)) (r : List (S35)) (w : World) (hr0 : Kd.C k35 w A0 l0.length l0) (hc0 : l0.length ≤ c0) (h : api_Cell.f l0 = some r) :
 Calls Try.prog 39 #[.slice A0 l0.length c0] w fun e w'=>∃ v0_ : Value,e = .returned (v0_)∧Kd.R k35 35 w' w.heap.size (fun _=>True) v0_ r∧Below w.heap.size w w':=by
 cases A0 with
|none =>
  have hl : l0 = []:=by
   rcases l0 with _|⟨x,l⟩
   ·rfl
   ·obtain ⟨ad,h0,_⟩:=hr0.2.2 (by simp);cases h0
  subst hl;obtain rfl : r = []:=by simpa [api_Cell.f] using h.symm
  clear h hr0 hc0;have hnil:=fun (w : World)=>run_eql_slice_nil (P:=Try.prog) w 24 35 none 0 c0 Try.underlying24
  go_enter Try.func39,Try.ntmps39
  go_wp2;go_ret;exact ⟨_,rfl,Kd.R_nil _ _ _ _ _,zE _ _⟩
|some ad0 =>
  have HR0:=zA hr0;have HC0:=zA hc0;clear hr0 hc0;have HB:=zA (zE w.heap.size w);have H : ((some (([] : List (S35)) : List (S35))).bind fun y101=>(if y101.length + l0.length < 17592186044416 then (some (y101 ++ l0)) else (none))) = some r:=h;clear h;obtain ⟨y101,hy101⟩ : ∃ y_ : List (S35),y_ = (([] : List (S35))):=⟨_,rfl⟩;replace H : (if y101.length + l0.length < 17592186044416 then (some (y101 ++ l0)) else (none)) = some r:=by first|(rw [hy101];with_reducible exact H)|(have H2_:=(zX _ _).symm.trans H;rw [hy101];with_reducible exact H2_)|(have H2_:=(zX _ _).symm.trans H;with_reducible exact H2_)|with_reducible exact H|(rw [hy101];exact H)|exact H
  have Ny101:=zA hy101;clear hy101;by_cases c2 : y101.length + l0.length < 17592186044416
  ·rw [if_pos c2] at H;have LMc2:=zA c2;clear c2;obtain ⟨y104,hy104⟩ : ∃ y_ : List (S35),y_ = (y101 ++ l0):=⟨_,rfl⟩;replace H : (some y104) = some r:=by first|(rw [hy104];with_reducible exact H)|(have H2_:=(zX _ _).symm.trans H;rw [hy104];with_reducible exact H2_)|(have H2_:=(zX _ _).symm.trans H;with_reducible exact H2_)|with_reducible exact H|(rw [hy104];exact H)|exact H
   have Ny104:=zA hy104;clear hy104;obtain rfl:=zY H;have hnil:=fun (w : World)=>run_eql_slice_nil (P:=Try.prog) w 24 35 (some ad0) l0.length c0 Try.underlying24
   go_enter Try.func39,Try.ntmps39
   go_wp2_with (first|((with_reducible refine zG (N:=5) rfl ?_);refine Kd.R_lit k35 _ 35 ?hg (N:=5) ?hd (xs:=([] : List (S35))) (inner:=[]) (ok:=fun _=>True) (okp:=fun _=>True) ?hr ?hp (fun _ hk=>hk) trivial (zE _ _) (Nat.le_refl _) (by simp) ?_;(case hd=>rfl);(case hg=>rfl);(case hr=>first|(go_simp;done)|(go_simp;rfl));(case hp=>exact (Reps.none _ _));intro v102 w3 ho4 hb hg_ hnew_;clear hg_ hnew_;(first|rw [← Ny101.out] at ho4|(simp only [Int.reduceToNat] at ho4;rw [← Ny101.out] at ho4));have n0_:=zA (Kd.R_lower ho4 (below_size (by repeat (first|(with_reducible first|exact HB.out|apply below_alloc|apply pw_below_drewN|apply below_drew1)|exact HB.out))));have n1_:=zA (below_step (by repeat (first|(with_reducible first|exact HB.out|apply below_alloc|apply pw_below_drewN|apply below_drew1)|exact HB.out)) hb);clear HB;have HO103:=n0_;have HB:=n1_;clear n0_ n1_;clear hb ho4)|((with_reducible refine gate_builtin (b:=.append) (xs:=#[.tmp 5,.tmp 6]) rfl ?_);at_builtin;refine Kd.R_append_rows k35 (w0:=w) w.heap.size rfl (.tmp 5) (.tmp 6) 24 35 (.agg #[(.int .i32 0),(.int .u16 0),(.int .u8 0)]) 8 rfl Try.underlying24 info35 rfl (by decide) (by omega) v102 y101 l0 _ _ _ (fun _=>True) (fun _=>False) rfl rfl ?aO ?aR (fun _ _ h=>h) (fun _ h=>h.elim) ?aF ?aB ?aS ?aL ?_;(case aR=>repeat (first|exact (Kd.C_below HR0.out HB.out)|(with_reducible refine Kd.C_alloc ?_ _)|(with_reducible refine Kd.C_drewN ?_ _)|(with_reducible refine Kd.C_drew ?_)));(case aB=>exact (by repeat (first|(with_reducible first|exact HB.out|apply below_alloc|apply pw_below_drewN|apply below_drew1)|exact HB.out)));(case aF=>exact (fun _ _=>trivial));(case aO=>exact (by (with_reducible repeat (first|apply Kd.R_alloc|apply Kd.R_drewN|apply Kd.R_drew));exact HO103.out));(case aS=>exact (below_size (by repeat (first|(with_reducible first|exact HB.out|apply below_alloc|apply pw_below_drewN|apply below_drew1)|exact HB.out))));(case aL=>have:=LMc2.out;omega);intro v105 w5 ho hb hg hat;rw [← Ny104.out] at ho;have n0_:=zA (hb);have n1_:=zA (ho);clear HB;clear HO103;have HB:=n0_;have HO106:=n1_;clear n0_ n1_;clear ho hb hg hat));go_ret;exact ⟨_,by first|rfl|(simp [errW_none,errW_some] <;> rfl)|(simp [*,errW_none,errW_some] <;> rfl),by (with_reducible repeat (first|apply Kd.R_alloc|apply Kd.R_drewN|apply Kd.R_drew));exact HO106.out,by repeat (first|(with_reducible first|exact HB.out|apply below_alloc|apply pw_below_drewN|apply below_drew1)|exact HB.out)⟩
  ·rw [if_neg c2] at H;exact absurd H (by simp)
/-! ### grid_size: function 43 -/
def grid_size.f (a0 : Int) : Option (Bool):=if a0 ≥ 1 then (some (decide (a0 ≤ 1000))) else (some false)
set_option maxHeartbeats 8000000 in
set_option maxRecDepth 100000 in
theorem grid_size.calls (a0 : Int) (r : Bool) (w : World) (h : grid_size.f a0 = some r) :
 Calls Try.prog 43 #[.int .i64 a0] w fun e w'=>e = .returned (.bool r)∧Drawn0 w w':=by
 have H : (if a0 ≥ 1 then (some (decide (a0 ≤ 1000))) else (some false)) = some r:=h;clear h;by_cases c2 : a0 ≥ 1
 ·rw [if_pos c2] at H;have c2b0 : decide (1 ≤ a0) = true:=zC c2;clear c2;obtain rfl:=zY H;go_enter Try.func43,Try.ntmps43
  go_wp2;go_ret;exact ⟨by first|rfl|(simp;done)|(simp [*];done),by repeat (first|exact Drawn0.refl _|apply Drawn0.step)⟩
 ·rw [if_neg c2] at H;have c2b0 : decide (1 ≤ a0) = false:=zD c2;clear c2;obtain rfl:=zY H;go_enter Try.func43,Try.ntmps43
  go_wp2;go_ret;exact ⟨by first|rfl|(simp;done)|(simp [*];done),by repeat (first|exact Drawn0.refl _|apply Drawn0.step)⟩
/-! ### grid_rows: function 57 -/
def grid_rows.f (l0 : List (S35)) (a1 : Int) : Option (Int):=(grid_size.f a1).bind fun t107=>(if t107 = true then (if a1 = 0 then (none) else (if ((l0.length : Int) % a1) = 0 then ((grid_size.f (wrap64 ((l0.length : Int) / a1))).bind fun t108=>(if t108 = true then (some (wrap64 ((l0.length : Int) / a1))) else (some 0))) else (some 0))) else (some 0))
set_option maxHeartbeats 8000000 in
set_option maxRecDepth 100000 in
theorem grid_rows.calls (A0 : Option Addr) (c0 : Nat) (l0 : List (S35)) (a1 : Int) (r : Int) (w : World) (hr0 : Kd.C k35 w A0 l0.length l0) (hc0 : l0.length ≤ c0) (h : grid_rows.f l0 a1 = some r) :
 Calls Try.prog 57 #[.slice A0 l0.length c0,.int .i64 a1] w fun e w'=>e = .returned (.int .i64 r)∧Drawn0 w w':=by
 have HR0:=zA hr0;have HC0:=zA hc0;clear hr0 hc0;have H : ((grid_size.f a1).bind fun t107=>(if t107 = true then (if a1 = 0 then (none) else (if ((l0.length : Int) % a1) = 0 then ((grid_size.f (wrap64 ((l0.length : Int) / a1))).bind fun t108=>(if t108 = true then (some (wrap64 ((l0.length : Int) / a1))) else (some 0))) else (some 0))) else (some 0))) = some r:=h;clear h;replace H:=Option.bind_eq_some_iff.mp H;obtain ⟨t107,A30,H⟩:=H;replace H : (if t107 = true then (if a1 = 0 then (none) else (if ((l0.length : Int) % a1) = 0 then ((grid_size.f (wrap64 ((l0.length : Int) / a1))).bind fun t108=>(if t108 = true then (some (wrap64 ((l0.length : Int) / a1))) else (some 0))) else (some 0))) else (some 0)) = some r:=H;have A3:=zA A30;clear A30;by_cases c4 : t107 = true
 ·subst c4;have H1 : (if a1 = 0 then (none) else (if ((l0.length : Int) % a1) = 0 then ((grid_size.f (wrap64 ((l0.length : Int) / a1))).bind fun t108=>(if t108 = true then (some (wrap64 ((l0.length : Int) / a1))) else (some 0))) else (some 0))) = some r:=by rw [if_pos rfl] at H;exact H
  clear H;have H:=H1;clear H1;by_cases c5 : a1 = 0
  ·rw [if_pos c5] at H;exact absurd H (by simp)
  ·rw [if_neg c5] at H;have c5b0 : (a1 == 0) = false:=beq_eq_false_iff_ne.mpr c5;have c5b1 : (a1 != 0) = true:=bne_iff_ne.mpr c5;by_cases c6 : ((l0.length : Int) % a1) = 0
   ·rw [if_pos c6] at H;have c6b0 : (((l0.length : Int) % a1) == 0) = true:=beq_iff_eq.mpr c6;have c6b1 : (((l0.length : Int) % a1) != 0) = false:=bne_eq_false_iff_eq.mpr c6;clear c6;replace H:=Option.bind_eq_some_iff.mp H;obtain ⟨t108,A70,H⟩:=H;replace H : (if t108 = true then (some (wrap64 ((l0.length : Int) / a1))) else (some 0)) = some r:=H;have A7:=zA A70;clear A70;by_cases c8 : t108 = true
    ·subst c8;have H1 : (some (wrap64 ((l0.length : Int) / a1))) = some r:=by rw [if_pos rfl] at H;exact H
     clear H;have H:=H1;clear H1;obtain rfl:=zY H;go_enter Try.func57,Try.ntmps57
     go_wp2_with (first|((with_reducible refine zI (f:=43) rfl ?_);refine goesL_ (some 6) rfl rfl Try.func43 (by kernel_rfl) rfl #[.int .i64 a1] rfl (by (try simp only [zS,zT,zU]);first|done|rfl|(simp only [List.length_drop,List.length_take];rfl)) ?_;(with_reducible refine (grid_size.calls a1 true _ A3.out).mono ?_);rintro e w' ⟨rfl,⟨nd,rfl⟩⟩;refine ⟨_,rfl,?_⟩)|(go_at_call 43;(with_reducible refine (grid_size.calls (wrap64 ((l0.length : Int) / a1)) true _ A7.out).mono ?_);rintro e w' ⟨rfl,⟨nd,rfl⟩⟩));go_ret;exact ⟨by first|rfl|(simp;done)|(simp [*];done),by repeat (first|exact Drawn0.refl _|apply Drawn0.step)⟩
    ·replace c8:=Bool.eq_false_iff.mpr c8;subst c8;have H1 : (some 0) = some r:=by rw [if_neg (show ¬ (false = true) by decide)] at H;exact H
     clear H;have H:=H1;clear H1;obtain rfl:=zY H;go_enter Try.func57,Try.ntmps57
     go_wp2_with (first|((with_reducible refine zI (f:=43) rfl ?_);refine goesL_ (some 6) rfl rfl Try.func43 (by kernel_rfl) rfl #[.int .i64 a1] rfl (by (try simp only [zS,zT,zU]);first|done|rfl|(simp only [List.length_drop,List.length_take];rfl)) ?_;(with_reducible refine (grid_size.calls a1 true _ A3.out).mono ?_);rintro e w' ⟨rfl,⟨nd,rfl⟩⟩;refine ⟨_,rfl,?_⟩)|(go_at_call 43;(with_reducible refine (grid_size.calls (wrap64 ((l0.length : Int) / a1)) false _ A7.out).mono ?_);rintro e w' ⟨rfl,⟨nd,rfl⟩⟩));go_ret;exact ⟨by first|rfl|(simp;done)|(simp [*];done),by repeat (first|exact Drawn0.refl _|apply Drawn0.step)⟩
   ·rw [if_neg c6] at H;have c6b0 : (((l0.length : Int) % a1) == 0) = false:=beq_eq_false_iff_ne.mpr c6;have c6b1 : (((l0.length : Int) % a1) != 0) = true:=bne_iff_ne.mpr c6;obtain rfl:=zY H;go_enter Try.func57,Try.ntmps57
    go_wp2_with (first|((with_reducible refine zI (f:=43) rfl ?_);refine goesL_ (some 6) rfl rfl Try.func43 (by kernel_rfl) rfl #[.int .i64 a1] rfl (by (try simp only [zS,zT,zU]);first|done|rfl|(simp only [List.length_drop,List.length_take];rfl)) ?_;(with_reducible refine (grid_size.calls a1 true _ A3.out).mono ?_);rintro e w' ⟨rfl,⟨nd,rfl⟩⟩;refine ⟨_,rfl,?_⟩));go_ret;exact ⟨by first|rfl|(simp;done)|(simp [*];done),by repeat (first|exact Drawn0.refl _|apply Drawn0.step)⟩
 ·replace c4:=Bool.eq_false_iff.mpr c4;subst c4;have H1 : (some 0) = some r:=by rw [if_neg (show ¬ (false = true) by decide)] at H;exact H
  clear H;have H:=H1;clear H1;obtain rfl:=zY H;go_enter Try.func57,Try.ntmps57
  go_wp2_with (first|((with_reducible refine zI (f:=43) rfl ?_);refine goesL_ (some 6) rfl rfl Try.func43 (by kernel_rfl) rfl #[.int .i64 a1] rfl (by (try simp only [zS,zT,zU]);first|done|rfl|(simp only [List.length_drop,List.length_take];rfl)) ?_;(with_reducible refine (grid_size.calls a1 false _ A3.out).mono ?_);rintro e w' ⟨rfl,⟨nd,rfl⟩⟩;refine ⟨_,rfl,?_⟩));go_ret;exact ⟨by first|rfl|(simp;done)|(simp [*];done),by repeat (first|exact Drawn0.refl _|apply Drawn0.step)⟩
/-! ### grid_within: function 40 -/
def grid_within.f (l0 : List (S35)) (a1 : Int) (a2 : Int) (a3 : Int) : Option (Bool):=if a2 ≥ 0 then (if a2 ≤ a3 then ((grid_rows.f l0 a1).bind fun t109=>(some (decide (a3 < t109)))) else (some false)) else (some false)
set_option maxHeartbeats 8000000 in
set_option maxRecDepth 100000 in
theorem grid_within.calls (A0 : Option Addr) (c0 : Nat) (l0 : List (S35)) (a1 : Int) (a2 : Int) (a3 : Int) (r : Bool) (w : World) (hr0 : Kd.C k35 w A0 l0.length l0) (hc0 : l0.length ≤ c0) (h : grid_within.f l0 a1 a2 a3 = some r) :
 Calls Try.prog 40 #[.slice A0 l0.length c0,.int .i64 a1,.int .i64 a2,.int .i64 a3] w fun e w'=>e = .returned (.bool r)∧Drawn0 w w':=by
 have HR0:=zA hr0;have HC0:=zA hc0;clear hr0 hc0;have H : (if a2 ≥ 0 then (if a2 ≤ a3 then ((grid_rows.f l0 a1).bind fun t109=>(some (decide (a3 < t109)))) else (some false)) else (some false)) = some r:=h;clear h;by_cases c5 : a2 ≥ 0
 ·rw [if_pos c5] at H;have c5b0 : decide (0 ≤ a2) = true:=zC c5;clear c5;by_cases c6 : a2 ≤ a3
  ·rw [if_pos c6] at H;have c6b0 : decide (a2 ≤ a3) = true:=zC c6;clear c6;replace H:=Option.bind_eq_some_iff.mp H;obtain ⟨t109,A70,H⟩:=H;replace H : (some (decide (a3 < t109))) = some r:=H;have A7:=zA A70;clear A70;obtain rfl:=zY H;go_enter Try.func40,Try.ntmps40
   go_wp2_with (first|(go_at_call 57;(with_reducible refine (grid_rows.calls _ _ l0 a1 t109 _ ?side1 ?side2 A7.out).mono ?_);(case side1=>repeat (first|exact HR0.out|(with_reducible refine Kd.C_alloc ?_ _)|(with_reducible refine Kd.C_drewN ?_ _)|(with_reducible refine Kd.C_drew ?_)));(case side2=>exact HC0.out);rintro e w' ⟨rfl,⟨nd,rfl⟩⟩));go_ret;exact ⟨by first|rfl|(simp;done)|(simp [*];done),by repeat (first|exact Drawn0.refl _|apply Drawn0.step)⟩
  ·rw [if_neg c6] at H;have c6b0 : decide (a2 ≤ a3) = false:=zD c6;clear c6;obtain rfl:=zY H;go_enter Try.func40,Try.ntmps40
   go_wp2;go_ret;exact ⟨by first|rfl|(simp;done)|(simp [*];done),by repeat (first|exact Drawn0.refl _|apply Drawn0.step)⟩
 ·rw [if_neg c5] at H;have c5b0 : decide (0 ≤ a2) = false:=zD c5;clear c5;obtain rfl:=zY H;go_enter Try.func40,Try.ntmps40
  go_wp2;go_ret;exact ⟨by first|rfl|(simp;done)|(simp [*];done),by repeat (first|exact Drawn0.refl _|apply Drawn0.step)⟩
/-! ### grid_near: function 41 -/
def grid_near.f (a0 : Int) : Option (Int):=some (mn (mx a0 0) 1000)
set_option maxHeartbeats 8000000 in
set_option maxRecDepth 100000 in
theorem grid_near.calls (a0 : Int) (r : Int) (w : World) (h : grid_near.f a0 = some r) :
 Calls Try.prog 41 #[.int .i64 a0] w fun e w'=>e = .returned (.int .i64 r)∧Below w.heap.size w w':=by
 have HB:=zA (zE w.heap.size w);have H : (some (mn (mx a0 0) 1000)) = some r:=h;clear h;obtain ⟨ji2,hji2⟩ : ∃ j_ : Int,(mx a0 0) = j_:=⟨_,rfl⟩;replace H : (some (mn (ji2) 1000)) = some r:=by first|(rw [hji2] at H;exact H)|(simp only [hji2] at H ⊢;exact H)
 (try (have hji2l : 0 ≤ ji2:=by (rw [← hji2];unfold mx;(repeat' split) <;> omega)));(try (have hji2m : 0 ≤ ji2:=by omega));have hji2_ : (if a0 < 0 then 0 else a0) = ji2:=hji2;obtain ⟨ji3,hji3⟩ : ∃ j_ : Int,(mn (ji2) 1000) = j_:=⟨_,rfl⟩;replace H : (some ji3) = some r:=by first|(rw [hji3] at H;exact H)|(simp only [hji3] at H ⊢;exact H)
 have hji3_ : (if 1000 < (ji2) then 1000 else (ji2)) = ji3:=hji3;obtain rfl:=zY H;go_enter Try.func41,Try.ntmps41
 go_wp2;go_ret;exact ⟨by first|rfl|(simp [errW_none,errW_some] <;> rfl)|(simp only [← hji2,← hji3];first|rfl|(simp [errW_none,errW_some] <;> rfl))|(simp [*,errW_none,errW_some] <;> rfl),by repeat (first|(with_reducible first|exact HB.out|apply below_alloc|apply pw_below_drewN|apply below_drew1)|exact HB.out)⟩
/-! ### grid_blank: function 58 -/
def grid_blank.f  : Option (Int × Int × Int):=some (32,0,0)
set_option maxHeartbeats 8000000 in
set_option maxRecDepth 100000 in
theorem grid_blank.calls  (r1 : Int) (r2 : Int) (r3 : Int) (w : World) (h : grid_blank.f  = some (r1,r2,r3)) :
 Calls Try.prog 58 #[] w fun e w'=>e = .returned (.agg #[.int .i32 r1,.int .u16 r2,.int .u8 r3])∧Below w.heap.size w w':=by
 have hu35:=Try.underlying35;have HB:=zA (zE w.heap.size w);have H : (some (32,0,0)) = some (r1,r2,r3):=h;clear h;simp only [Option.some.injEq,Prod.mk.injEq] at H;obtain ⟨rfl,rfl,rfl⟩:=H;go_enter Try.func58,Try.ntmps58
 go_wp2_with (first|((with_reducible refine zG (N:=0) rfl ?_);refine box_event ?hg (N:=0) ?hd (cs:=#[.int .i32 0,.int .u16 0,.int .u8 0]) (t:=35) ?hr ?_;(case hd=>rfl);(case hg=>rfl);(case hr=>first|(go_simp;done)|(go_simp;rfl));intro gb110 hg w1 hbox hb;have n0_:=zA (below_step (by repeat (first|(with_reducible first|exact HB.out|apply below_alloc|apply pw_below_drewN|apply below_drew1)|exact HB.out)) hb);have n1_:=zA (hbox);have n2_:=zA ((by rw [hg];exact (below_size (by repeat (first|(with_reducible first|exact HB.out|apply below_alloc|apply pw_below_drewN|apply below_drew1)|exact HB.out))) : w.heap.size ≤ gb110));have n3_:=zA ((by rw [hg];exact (below_size (by repeat (first|(with_reducible first|exact HB.out|apply below_alloc|apply pw_below_drewN|apply below_drew1)|exact HB.out))) : w.heap.size ≤ gb110));clear HB;have HB:=n0_;have BK110:=n1_;have GW110:=n2_;have GE110:=n3_;clear n0_ n1_ n2_ n3_;clear hb hbox hg;have hcz2_0 : w1.cell? ⟨gb110,0,none⟩ = some (.int .i32 0):=(blk_cell BK110.out 0).trans rfl;have hcz2_1 : w1.cell? ⟨gb110,1,none⟩ = some (.int .u16 0):=(blk_cell BK110.out 1).trans rfl;have hcz2_2 : w1.cell? ⟨gb110,2,none⟩ = some (.int .u8 0):=(blk_cell BK110.out 2).trans rfl;have hfz2_0:=blk_frozen BK110.out 0;have hfz2_1:=blk_frozen BK110.out 1;have hfz2_2:=blk_frozen BK110.out 2));refine bodyPost_ret (results_cell_row rfl _ _ gb110 35 #[.int .i32 32,.int .u16 0,.int .u8 0] (0,0) _ rfl (by (with_reducible repeat (first|refine blk_drewN ?_ _|refine blk_drew ?_|refine blk_alloc ?_ _));refine blk_put (cs:=#[.int .i32 32,.int .u16 0,.int .u8 0]) ?_ 2 _ rfl;(with_reducible repeat (first|refine blk_drewN ?_ _|refine blk_drew ?_|refine blk_alloc ?_ _));refine blk_put (cs:=#[.int .i32 32,.int .u16 0,.int .u8 0]) ?_ 1 _ rfl;(with_reducible repeat (first|refine blk_drewN ?_ _|refine blk_drew ?_|refine blk_alloc ?_ _));refine blk_put (cs:=#[.int .i32 0,.int .u16 0,.int .u8 0]) ?_ 0 _ rfl;(with_reducible repeat (first|refine blk_drewN ?_ _|refine blk_drew ?_|refine blk_alloc ?_ _));exact BK110.out) Try.underlying35 rfl (by kernel_rfl)) rfl ?_;exact ⟨by first|rfl|(simp [errW_none,errW_some] <;> rfl)|(simp [*,errW_none,errW_some] <;> rfl),by repeat (first|(with_reducible first|exact HB.out|apply below_alloc|apply pw_below_drewN|apply below_drew1|refine below_set ?_ GE110.out)|exact HB.out)⟩
end Go.Proofs.Ytooageeehallbaa.QRunsCut
namespace Go.Proofs.Ytooageeehallbaa.Scr
open Go.RowKit Go.Proofs.YtooageeehallbaaW.PrintWords Go.Proofs.YtooageeehallbaaW.PrintLast Go.Proofs.YtooageeehallbaaW.PrintMore Go.Proofs.Ytooageeehallbaa.QRunsCut
attribute [local go_sem] max2_int min2_int max_two min_two max_three min_three max_four min_four   -- for this text's walks alone
set_option linter.unusedVariables false
set_option linter.unusedSimpArgs false
theorem grown_below {W w' : World} {row : Option Nat} (hb : Below W.heap.size W w') : W.grownBy w' row:=⟨hb.os,hb.tape,hb.output,hb.size,fun k hk _=>hb.block k hk⟩
theorem row_putw {P : Program} {ops : Array Oper} {rest : List Oper} {Q : Exit → Act → World → Prop} {a : Act} {o : Oper} {W : World} {base : Nat} {ok : Nat → Prop} {g n cap : Nat} {xs : List S35} (HR : Kd.R k35 35 W base ok (.slice (some ⟨g,0,none⟩) n cap) xs) {j : Nat} (h1 : j < n) (hgd : o.guard = none) (hd : o.dst = none) {x y : Operand} (ho : o.op = .store 35 x y) {off : Nat} (hx : a.eval x = .pointer (some ⟨g,off,none⟩)) (hoff : off = j * 3)
 {r at_ h : Int} (hy : a.eval y = .agg #[.int .i32 r,.int .u16 at_,.int .u8 h]) (hi : (P.info? 35).map (·.size) = some 3)
 (K : ∀ w1,W.grownBy w1 (some g) → Kd.R k35 35 w1 base ok (.slice (some ⟨g,0,none⟩) n cap) (xs.set j ⟨r,at_,h⟩) → wpList P ops Q rest a w1) : wpList P ops Q (o :: rest) a W:=by
 subst hoff;exact row_put3 HR (i:=(j : Int)) (by omega) (by omega) hgd hd ho hx hy hi K
def blk : S35:=⟨32,0,0⟩
def filled (xs : List S35) (lo m : Nat) : List S35:=xs.take lo ++ (List.replicate m blk ++ xs.drop (lo + m))
theorem filled_zero (xs : List S35) (lo : Nat) : filled xs lo 0 = xs:=by
 unfold filled;rw [List.replicate_zero,List.nil_append,Nat.add_zero,List.take_append_drop]
theorem filled_step {xs : List S35} {lo i : Nat} (h : lo + i < xs.length) : (filled xs lo i).set (lo + i) blk = filled xs lo (i + 1):=by
 unfold filled;rw [List.set_append_right _ _ (by rw [List.length_take];omega),List.length_take,Nat.min_eq_left (by omega),show lo + i - lo = i from by omega,List.set_append_right _ _ (by rw [List.length_replicate];exact Nat.le_refl _),List.length_replicate,Nat.sub_self];rw [List.drop_eq_getElem_cons h,zQ,List.replicate_succ',List.append_assoc];rfl
set_option maxHeartbeats 4000000 in
set_option maxRecDepth 100000 in
theorem fill_call {W : World} {base : Nat} {ok : Nat → Prop} {g n cap : Nat} {xs : List S35} (HR : Kd.R k35 35 W base ok (.slice (some ⟨g,0,none⟩) n cap) xs) {lo m c : Nat} {A : Option Addr} (hA : 0 < m → A = some ⟨g,lo * 3,none⟩) (hlo : lo + m ≤ n) :
 Calls Try.prog 42 #[.slice A m c] W fun e w'=>e = .returned (.tuple #[])∧W.grownBy w' (some g)∧Kd.R k35 35 w' base ok (.slice (some ⟨g,0,none⟩) n cap) (filled xs lo m):=by
 have hn : n = xs.length:=(Kd.R_reads' HR).1.symm ▸ rfl;obtain ⟨l_,hl_,hln,_,hC⟩:=Row.reads (R_row HR (P:=fun x=>x = xs) rfl);subst hl_;have hmax:=Kd.C_max hC;have HT:=zA (show Kd.R k35 35 W base ok (.slice (some ⟨g,0,none⟩) n cap) (filled l_ lo 0) by rw [filled_zero];exact HR);have HG:=zA (World.grownBy.refl W (some g));clear HR hC;go_enter Try.func42,Try.ntmps42
 go_wp2;go_loopg [5] m (fun kq v5 wr=>∃ (i : Nat),v5 = .int .i64 (i : Int)∧Aside0 (kq = m - i∧i ≤ m)∧Aside0 (W.grownBy wr (some g))∧Aside0 (Kd.R k35 35 wr base ok (.slice (some ⟨g,0,none⟩) n cap) (filled l_ lo i)))
 case atStart=>exact ⟨0,rfl,⟨by omega,by omega⟩,HG,HT⟩
 case round =>
  clear HG HT;obtain ⟨i,rfl,HK,HG,HT⟩:=hrel;by_cases hlt : i < m
  ·cases hA (by omega);have p1:=eq_true (show (0 : Int) ≤ (i : Int) by omega);have p2:=eq_true (show (i : Int) < (m : Int) by omega);have hj:=zA (show lo + i < n by omega);have ei : Aside0 (wrap64 ((i : Int) + 1) = ((i + 1 : Nat) : Int)):=⟨by rw [wrap64];omega⟩;go_wp2_with (first|((with_reducible refine zG (N:=10) rfl ?_);refine goesL_ (some 10) rfl rfl Try.func58 (by kernel_rfl) rfl _ rfl rfl ?_;(try simp only [zS,zT,zU]);refine Calls.mono (grid_blank.calls 32 0 0 _ rfl) ?_;rintro e w10 ⟨rfl,hb⟩;replace HG:=zA (HG.out.trans (grown_below hb));replace HT:=zA (Kd.R_below HT.out hb);clear hb;refine ⟨_,rfl,?_⟩)|((with_reducible refine zH (t:=35) (p:=11) rfl ?_);refine row_putw HT.out hj.out rfl rfl rfl (by first|rfl|(go_simp;rfl)) (by omega) rfl one35 ?_;intro w_11 hg ho;replace HG:=zA (HG.out.trans hg);replace HT:=zA ho;clear hg ho));go_roundg (m - (i + 1))
   case measure=>have:=HK.out;omega
   case rel=>exact ⟨i + 1,by first|rfl|simp,⟨rfl,hlt⟩,HG,⟨by rw [← filled_step (by have:=hj.out;omega)];exact HT.out⟩⟩
  ·have p2:=eq_false (show ¬ (i : Int) < (m : Int) by omega);have ej : i = m:=by have:=HK.out;omega
   subst ej;go_wp2;refine bodyPost_end (results_none rfl _ _ _) rfl ?_;exact ⟨rfl,HG.out,HT.out⟩
end Go.Proofs.Ytooageeehallbaa.Scr
