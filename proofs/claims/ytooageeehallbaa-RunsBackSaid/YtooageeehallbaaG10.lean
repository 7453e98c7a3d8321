/- Parts of the claim's proof, merged; no condition beyond what each theorem states. -/
import Derived.Test.YtooageeehallbaaG8
import Derived.Test.YtooageeehallbaaG9
import Derived.Test.YtooageeehallbaaWMore
import Derived.Test.YtooageeehallbaaWLast
import Derived.Lib.ConvBytes
import Derived.Laws.AppendOwn
import Derived.Lib.AppendStr
import Derived.Test.YtooageeehallbaaG1
import Derived.Test.YtooageeehallbaaG7
namespace Go.Proofs.Ytooageeehallbaa.Scr
open Go.RowKit Go.Proofs.YtooageeehallbaaW.PrintWords Go.Proofs.YtooageeehallbaaW.PrintLast Go.Proofs.YtooageeehallbaaW.PrintMore Go.Proofs.Ytooageeehallbaa.QRunsCut
attribute [local go_sem] max2_int min2_int max_two min_two max_three min_three max_four min_four 
set_option linter.unusedVariables false
set_option linter.unusedSimpArgs false
set_option maxHeartbeats 20000000 in
set_option maxRecDepth 100000 in
theorem feed_inv {ok : Nat → Prop} {rows cols : Int} (s : Scr) (bl : Sl) (w : World) (h : Inv rows cols s w ok) (hl : Row (Kd.int .u8) bl Bytes8 w ok) :
 Calls Try.prog 37 #[.agg s.cs,.slice bl.A bl.n bl.c] w (Post rows cols w ok):=by
 have HB:=zA (zE w.heap.size w);have hp:=h;obtain ⟨hr_,hc_⟩:=And.intro h.hrows h.hcols;subst hr_ hc_;have HI:=zA (mvInv.enter h rfl);clear h;have HL:=zA (mvRow.enter hl (n:=w.heap.size) rfl);replace hp:=zA hp;clear hl;go_enter Try.func37,Try.ntmps37
 go_wp2_with (first|((with_reducible refine zG (N:=2) rfl ?_);refine bx_box (t:=31) (n:=w.heap.size) rfl rfl rfl rfl HB.out.size ?_;intro g2 w2 hN hg bx;replace HB:=zA (zL HB.out HB.out.size hg);replace HI:=zA (mvInv.fresh HI.out hN hg);replace HL:=zA (mvRow.fresh HL.out hN hg);have BX2:=zA bx;clear hN hg bx)|((with_reducible refine zG (N:=4) rfl ?_);refine bx_alloc (t:=31) (n:=w.heap.size) (cs:=Scr.zero.cs) rfl rfl rfl Scr.infoz HB.out.size ?_;intro g4 w4 hN hg bx;replace HB:=zA (zL HB.out HB.out.size hg);have NE2_4:=zA (show g2 ≠ g4 from by have:=BX2.out.lt;omega);have NE4_2:=zA (Ne.symm NE2_4.out);replace BX2:=zA (zO BX2.out hg);replace HI:=zA (mvInv.fresh HI.out hN hg);replace HL:=zA (mvRow.fresh HL.out hN hg);have BX4:=zA bx;clear hN hg bx));go_loopg [5] (bl.n) (fun kq v5 wr=>∃ (i : Int) (s1 : Scr),v5 = .int .i64 i∧Aside0 (kq = ((bl.n : Int) - i).toNat∧0 ≤ i∧i ≤ (bl.n : Int))∧Aside0 (Below w.heap.size w wr)∧Aside0 (Bx w.heap.size 31 g2 wr s1.cs)∧Aside0 (Bx w.heap.size 31 g4 wr Scr.zero.cs)∧Aside0 (Inv s.rows s.cols s1 wr (Nb ok w.heap.size [g4,g2]))∧Aside0 (Row (Kd.int .u8) bl Bytes8 wr (Nb ok w.heap.size [g4,g2])))
 case atStart=>exact ⟨0,s,rfl,⟨by omega,by decide,by omega⟩,HB,BX2,BX4,HI,HL⟩
 case round =>
  clear HB BX2 BX4 HI HL;obtain ⟨i,s1,rfl,HK,HB,BX2,BX4,HI,HL⟩:=hrel;obtain ⟨ll,hP,hn,hcl,hC⟩:=Row.reads HL.out;have p5:=eq_true HK.out.2.1;by_cases hlt : i < (bl.n : Int)
  ·have p6:=eq_true hlt;obtain ⟨adL,eL,hxE⟩:=Kd.at_int hC i HK.out.2.1 (by omega);have hby : Aside0 (0 ≤ rd ll i∧rd ll i ≤ 255):=⟨by
    have h0:=HK.out.2.1;unfold rd;rw [List.getD_eq_getElem?_getD,List.getElem?_eq_getElem (by omega)];exact hP _ (List.getElem_mem _)⟩
   have ei : Aside0 (wrap64 (i + 1) = i + 1):=⟨by have h1:=HK.out;have h2:=Kd.C_max hC;unfold wrap64;omega⟩;clear hC hP;replace hn:=zA hn;replace hcl:=zA hcl;clear hlt;have eL_:=zA eL;clear eL;go_upto_region 4 with (fail)
   go_cut [6,7] (fun v6 v7 wc=>∃ (g6 : Nat) (p_ : Par) (al_ : Sl),v6 = .pointer (some ⟨g6,0,none⟩)∧v7 = .slice al_.A al_.n al_.c∧Aside0 (g2 ≠ g6)∧Aside0 (g4 ≠ g6)∧Aside0 (Below w.heap.size w wc)∧Aside0 (Bx w.heap.size 31 g2 wc s1.cs)∧Aside0 (Bx w.heap.size 31 g4 wc Scr.zero.cs)∧Aside0 (Bx w.heap.size 29 g6 wc p_.cs)∧Aside0 (Inv s.rows s.cols s1 wc (Nb ok w.heap.size [g6,g4,g2]))∧Aside0 (Row (Kd.int .u8) bl Bytes8 wc (Nb ok w.heap.size [g6,g4,g2]))∧Aside0 (ParIn p_ wc (Nb ok w.heap.size [g6,g4,g2]))∧Aside0 (Acts 3 al_ wc (Nb ok w.heap.size [g6,g4,g2])))
   case first =>
    have eL:=eL_.out;have hb : Below wr.heap.size wr wr.drew:=(zE _ _).drew;replace BX2:=zA (zM BX2.out hb);replace BX4:=zA (zM BX4.out hb);replace HI:=zA (mvInv.call HI.out hb);replace HL:=zA (mvRow.call HL.out hb);replace HB:=zA (zJ HB.out HB.out.size hb);clear hb;refine start_ (n:=13) (S:=fun w'=>w'.heap[g2]? = some (.cells s1.cs 31 (0,0))∧w'.cell? (adL.add i.toNat) = some (.int .u8 (rd ll i))) (ds:=[11]) #[false,false,false,false,false,false,false,false,false,false,false,false,false] (by kernel_rfl) rfl rfl ⟨BX2.out.bx,hxE⟩ (fun hHeld=>?_);generalize World.drew wr = wD at HB BX2 BX4 HI HL hHeld ⊢;refine pure_ (i:=0) (N:=(some 16)) (v:=?_) (a':=?_) #[true,false,false,false,false,false,false,false,false,false,false,false,false] rfl rfl (by kernel_rfl) (fun _ _ _ h=>h) (Or.inl ⟨by rfl,?_⟩) ?_ ?_;rotate_left
    ·intro w';go_simp;(with_reducible rfl)
    rotate_left
    ·simp only [Act.put,zP,zQ,zR,i64_w,i32_w];rfl
    refine pure_ (i:=2) (N:=(some 18)) (v:=?_) (a':=?_) #[true,false,true,false,false,false,false,false,false,false,false,false,false] rfl rfl (by kernel_rfl) (fun _ _ _ h=>h) (Or.inl ⟨by rfl,?_⟩) ?_ ?_;rotate_left
    ·intro w';go_simp;(with_reducible rfl)
    rotate_left
    ·simp only [Act.put,zP,zQ,zR,i64_w,i32_w];rfl
    refine pure_ (i:=3) (N:=(some 19)) (v:=?_) (a':=?_) #[true,false,true,true,false,false,false,false,false,false,false,false,false] rfl rfl (by kernel_rfl) (fun _ _ _ h=>h) (Or.inl ⟨by rfl,?_⟩) ?_ ?_;rotate_left
    ·intro w';go_simp;(with_reducible rfl)
    rotate_left
    ·simp only [Act.put,zP,zQ,zR,i64_w,i32_w];rfl
    refine pure_ (i:=4) (N:=(some 20)) (v:=?_) (a':=?_) #[true,false,true,true,true,false,false,false,false,false,false,false,false] rfl rfl (by kernel_rfl) (fun _ _ _ h=>h) (Or.inl ⟨by rfl,?_⟩) ?_ ?_;rotate_left
    ·intro w';go_simp;(with_reducible rfl)
    rotate_left
    ·simp only [Act.put,zP,zQ,zR,i64_w,i32_w];rfl
    refine take_ (i:=1) (N:=(some 17)) (v:=(.agg s1.par.cs)) (a':=?_) #[true,true,true,true,true,false,false,false,false,false,false,false,false] rfl rfl (by kernel_rfl) (fun _ _ _ h=>h) (Or.inl ⟨by rfl,?_⟩) hHeld ?_ ?_
    ·rintro w' ⟨hs0_,hs1_⟩
     exact par_yields hs0_ rfl rfl
    rotate_left
    ·simp only [Act.put,zP,zQ,zR,i64_w,i32_w];rfl
    refine take_ (i:=5) (N:=(some 21)) (v:=(.int .u8 (rd ll i))) (a':=?_) #[true,true,true,true,true,true,false,false,false,false,false,false,false] rfl rfl (by kernel_rfl) (fun _ _ _ h=>h) (Or.inl ⟨by rfl,?_⟩) hHeld ?_ ?_
    ·rintro w' ⟨hs0_,hs1_⟩
     (go_simp;done)
    rotate_left
    ·simp only [Act.put,zP,zQ,zR,i64_w,i32_w];rfl
    refine two_ (i:=6) (j:=10) (Ni:=(some 22)) (Nj:=(some 6)) #[true,true,true,true,true,true,true,false,false,false,false,false,false] #[true,true,true,true,true,true,false,false,false,false,true,false,false] rfl rfl rfl rfl (by kernel_rfl) (by decide) (by decide) (fun K hK=>?_) (fun K hK=>?_)
    ·refine goes_ Try.func55 (by kernel_rfl) rfl _ (by rfl) rfl rfl rfl ?_;(try simp only [zS,zT,zU]);refine Calls.mono (stepp_inv _ _ hby.out _ HI.out.p) ?_;rintro e w22 ⟨p_,al_,rfl,NP0,NA0,hb⟩
     refine ⟨_,rfl,?_⟩;((have NP:=zA (mvPar.back (ok:=ok) (n:=w.heap.size) (gs:=[g4,g2]) NP0 HB.out.size (by simp only [zW,List.not_mem_nil,or_false];rintro g_ hg_;rcases hg_ with rfl|rfl <;> first|exact BX4.out.lt|exact BX2.out.lt));have NA:=zA (mvRow.back (ok:=ok) (n:=w.heap.size) (gs:=[g4,g2]) NA0 HB.out.size (by simp only [zW,List.not_mem_nil,or_false];rintro g_ hg_;rcases hg_ with rfl|rfl <;> first|exact BX4.out.lt|exact BX2.out.lt))))
     clear NP0 NA0;have hxE2:=(hb.cell (World.block_lt_of_cell? _ _ hHeld.2)).trans hHeld.2;replace BX2:=zA (zM BX2.out hb);replace BX4:=zA (zM BX4.out hb);replace HI:=zA (mvInv.call HI.out hb);replace HL:=zA (mvRow.call HL.out hb);replace HB:=zA (zJ HB.out HB.out.size hb);clear hb;refine hK.out _ _ ⟨BX2.out.bx,hxE2⟩ (fun hHeld=>?_);clear hK K;refine norm_ (a':=?_) ?_ ?_;rotate_left
     ·show Act.put _ (some 22) _ = _
      simp only [Act.put,zP,zQ,zR,i64_w,i32_w];rfl
     refine pure_ (i:=7) (N:=(some 15)) (v:=?_) (a':=?_) #[true,true,true,true,true,true,true,true,false,false,false,false,false] rfl rfl (by kernel_rfl) (fun _ _ _ h=>h) (Or.inl ⟨by rfl,?_⟩) ?_ ?_;rotate_left
     ·intro w';go_simp;(with_reducible rfl)
     rotate_left
     ·simp only [Act.put,zP,zQ,zR,i64_w,i32_w];rfl
     refine pure_ (i:=8) (N:=(some 23)) (v:=?_) (a':=?_) #[true,true,true,true,true,true,true,true,true,false,false,false,false] rfl rfl (by kernel_rfl) (fun _ _ _ h=>h) (Or.inl ⟨by rfl,?_⟩) ?_ ?_;rotate_left
     ·intro w';go_simp;(with_reducible rfl)
     rotate_left
     ·simp only [Act.put,zP,zQ,zR,i64_w,i32_w];rfl
     refine pure_ (i:=9) (N:=(some 24)) (v:=?_) (a':=?_) #[true,true,true,true,true,true,true,true,true,true,false,false,false] rfl rfl (by kernel_rfl) (fun _ _ _ h=>h) (Or.inl ⟨by rfl,?_⟩) ?_ ?_;rotate_left
     ·intro w';go_simp;(with_reducible rfl)
     rotate_left
     ·simp only [Act.put,zP,zQ,zR,i64_w,i32_w];rfl
     refine one_ (i:=10) (N:=(some 6)) #[true,true,true,true,true,true,true,true,true,true,true,false,false] rfl rfl (by kernel_rfl) (by decide) (fun K hK=>?_);refine bx_alloc_if (t:=29) (n:=w.heap.size) (cs:=Par.zero.cs) (by rfl) rfl rfl Par.infoz HB.out.size ?_;intro g6 w6 hN hg bx;have hxE3:=(World.cell?_of_block (hg.block _ (World.block_lt_of_cell? _ _ hHeld.2) (by simp))).trans hHeld.2;replace HB:=zA (zL HB.out HB.out.size hg);have NE2_6:=zA (show g2 ≠ g6 from by have:=BX2.out.lt;omega);have NE6_2:=zA (Ne.symm NE2_6.out);replace BX2:=zA (zO BX2.out hg);have NE4_6:=zA (show g4 ≠ g6 from by have:=BX4.out.lt;omega);have NE6_4:=zA (Ne.symm NE4_6.out);replace BX4:=zA (zO BX4.out hg);replace HI:=zA (mvInv.fresh HI.out hN hg);replace HL:=zA (mvRow.fresh HL.out hN hg);(try replace NP:=zA (mvPar.fresh NP.out hN hg));(try replace NA:=zA (mvRow.fresh NA.out hN hg));have BX6:=zA bx;clear hN hg bx;refine hK.out _ _ ⟨BX2.out.bx,hxE3⟩ (fun hHeld=>?_);clear hK K;refine norm_ (a':=?_) ?_ ?_;rotate_left
     ·show Act.put _ (some 6) _ = _
      simp only [Act.put,zP,zQ,zR,i64_w,i32_w];rfl
     refine last_ (i:=11) (N:=none) #[true,true,true,true,true,true,true,true,true,true,true,true,false] rfl rfl (by kernel_rfl) (by decide) (fun K hK=>?_);refine bx_store_if BX6.out (by rfl) rfl rfl rfl (cs':=Par.cs p_) rfl (Par.sizes _) rfl (Par.all _) ?_;intro w23 hg bx;replace HB:=zA (zK HB.out BX6.out hg);replace BX2:=zA (zN BX2.out hg NE2_6.out);replace BX4:=zA (zN BX4.out hg NE4_6.out);replace HI:=zA (mvInv.grown HI.out hg (by simp));replace HL:=zA (mvRow.grown HL.out hg (by simp));replace NP:=zA (mvPar.grown NP.out hg (by simp));replace NA:=zA (mvRow.grown NA.out hg (by simp));clear BX6;have BX6:=zA bx;clear bx hg;refine hK.out _ _ ?_;clear hK K;refine pure_ (i:=12) (N:=(some 7)) (v:=?_) (a':=?_) #[true,true,true,true,true,true,true,true,true,true,true,true,true] rfl rfl (by kernel_rfl) (fun _ _ _ h=>h) (Or.inl ⟨by rfl,?_⟩) ?_ ?_;rotate_left
     ·intro w';go_simp;(with_reducible rfl)
     rotate_left
     ·simp only [Act.put,zP,zQ,zR,i64_w,i32_w];rfl
     refine done_ (by kernel_rfl) ?_;clear eL;go_wp2_with (fail);go_meet
     case rel=>exact ⟨g6,p_,al_,rfl,rfl,NE2_6,NE4_6,HB,BX2,BX4,BX6,HI,HL,NP,NA⟩
    ·refine bx_alloc_if (t:=29) (n:=w.heap.size) (cs:=Par.zero.cs) (by rfl) rfl rfl Par.infoz HB.out.size ?_;intro g6 w6 hN hg bx;have hxE3:=(World.cell?_of_block (hg.block _ (World.block_lt_of_cell? _ _ hHeld.2) (by simp))).trans hHeld.2;replace HB:=zA (zL HB.out HB.out.size hg);have NE2_6:=zA (show g2 ≠ g6 from by have:=BX2.out.lt;omega);have NE6_2:=zA (Ne.symm NE2_6.out);replace BX2:=zA (zO BX2.out hg);have NE4_6:=zA (show g4 ≠ g6 from by have:=BX4.out.lt;omega);have NE6_4:=zA (Ne.symm NE4_6.out);replace BX4:=zA (zO BX4.out hg);replace HI:=zA (mvInv.fresh HI.out hN hg);replace HL:=zA (mvRow.fresh HL.out hN hg);have BX6:=zA bx;clear hN hg bx;refine hK.out _ _ ⟨BX2.out.bx,hxE3⟩ (fun hHeld=>?_);clear hK K;refine norm_ (a':=?_) ?_ ?_;rotate_left
     ·show Act.put _ (some 6) _ = _
      simp only [Act.put,zP,zQ,zR,i64_w,i32_w];rfl
     refine one_ (i:=6) (N:=(some 22)) #[true,true,true,true,true,true,true,false,false,false,true,false,false] rfl rfl (by kernel_rfl) (by decide) (fun K hK=>?_);refine goes_ Try.func55 (by kernel_rfl) rfl _ (by rfl) rfl rfl rfl ?_;(try simp only [zS,zT,zU]);refine Calls.mono (stepp_inv _ _ hby.out _ HI.out.p) ?_;rintro e w22 ⟨p_,al_,rfl,NP0,NA0,hb⟩
     refine ⟨_,rfl,?_⟩;((have NP:=zA (mvPar.back (ok:=ok) (n:=w.heap.size) (gs:=[g6,g4,g2]) NP0 HB.out.size (by simp only [zW,List.not_mem_nil,or_false];rintro g_ hg_;rcases hg_ with rfl|rfl|rfl <;> first|exact BX6.out.lt|exact BX4.out.lt|exact BX2.out.lt));have NA:=zA (mvRow.back (ok:=ok) (n:=w.heap.size) (gs:=[g6,g4,g2]) NA0 HB.out.size (by simp only [zW,List.not_mem_nil,or_false];rintro g_ hg_;rcases hg_ with rfl|rfl|rfl <;> first|exact BX6.out.lt|exact BX4.out.lt|exact BX2.out.lt))))
     clear NP0 NA0;have hxE2:=(hb.cell (World.block_lt_of_cell? _ _ hHeld.2)).trans hHeld.2;replace BX2:=zA (zM BX2.out hb);replace BX4:=zA (zM BX4.out hb);(try replace BX6:=zA (zM BX6.out hb));replace HI:=zA (mvInv.call HI.out hb);replace HL:=zA (mvRow.call HL.out hb);replace HB:=zA (zJ HB.out HB.out.size hb);clear hb;refine hK.out _ _ ⟨BX2.out.bx,hxE2⟩ (fun hHeld=>?_);clear hK K;refine norm_ (a':=?_) ?_ ?_;rotate_left
     ·show Act.put _ (some 22) _ = _
      simp only [Act.put,zP,zQ,zR,i64_w,i32_w];rfl
     refine pure_ (i:=7) (N:=(some 15)) (v:=?_) (a':=?_) #[true,true,true,true,true,true,true,true,false,false,true,false,false] rfl rfl (by kernel_rfl) (fun _ _ _ h=>h) (Or.inl ⟨by rfl,?_⟩) ?_ ?_;rotate_left
     ·intro w';go_simp;(with_reducible rfl)
     rotate_left
     ·simp only [Act.put,zP,zQ,zR,i64_w,i32_w];rfl
     refine pure_ (i:=8) (N:=(some 23)) (v:=?_) (a':=?_) #[true,true,true,true,true,true,true,true,true,false,true,false,false] rfl rfl (by kernel_rfl) (fun _ _ _ h=>h) (Or.inl ⟨by rfl,?_⟩) ?_ ?_;rotate_left
     ·intro w';go_simp;(with_reducible rfl)
     rotate_left
     ·simp only [Act.put,zP,zQ,zR,i64_w,i32_w];rfl
     refine pure_ (i:=9) (N:=(some 24)) (v:=?_) (a':=?_) #[true,true,true,true,true,true,true,true,true,true,true,false,false] rfl rfl (by kernel_rfl) (fun _ _ _ h=>h) (Or.inl ⟨by rfl,?_⟩) ?_ ?_;rotate_left
     ·intro w';go_simp;(with_reducible rfl)
     rotate_left
     ·simp only [Act.put,zP,zQ,zR,i64_w,i32_w];rfl
     refine last_ (i:=11) (N:=none) #[true,true,true,true,true,true,true,true,true,true,true,true,false] rfl rfl (by kernel_rfl) (by decide) (fun K hK=>?_);refine bx_store_if BX6.out (by rfl) rfl rfl rfl (cs':=Par.cs p_) rfl (Par.sizes _) rfl (Par.all _) ?_;intro w23 hg bx;replace HB:=zA (zK HB.out BX6.out hg);replace BX2:=zA (zN BX2.out hg NE2_6.out);replace BX4:=zA (zN BX4.out hg NE4_6.out);replace HI:=zA (mvInv.grown HI.out hg (by simp));replace HL:=zA (mvRow.grown HL.out hg (by simp));replace NP:=zA (mvPar.grown NP.out hg (by simp));replace NA:=zA (mvRow.grown NA.out hg (by simp));clear BX6;have BX6:=zA bx;clear bx hg;refine hK.out _ _ ?_;clear hK K;refine pure_ (i:=12) (N:=(some 7)) (v:=?_) (a':=?_) #[true,true,true,true,true,true,true,true,true,true,true,true,true] rfl rfl (by kernel_rfl) (fun _ _ _ h=>h) (Or.inl ⟨by rfl,?_⟩) ?_ ?_;rotate_left
     ·intro w';go_simp;(with_reducible rfl)
     rotate_left
     ·simp only [Act.put,zP,zQ,zR,i64_w,i32_w];rfl
     refine done_ (by kernel_rfl) ?_;clear eL;go_wp2_with (fail);go_meet
     case rel=>exact ⟨g6,p_,al_,rfl,rfl,NE2_6,NE4_6,HB,BX2,BX4,BX6,HI,HL,NP,NA⟩
   case rest =>
    clear HB BX2 BX4 HI HL;obtain ⟨g6,p_,al_,rfl,rfl,NE2_6,NE4_6,HB,BX2,BX4,BX6,HI,HL,NP,NA⟩:=hcut;have NE6_2:=zA (Ne.symm NE2_6.out);have NE6_4:=zA (Ne.symm NE4_6.out);go_wp2_with (fail);go_loopg [8] (al_.n) (fun kq v8 wr=>∃ (k : Int) (s2 : Scr),v8 = .int .i64 k∧Aside0 (kq = ((al_.n : Int) - k).toNat∧0 ≤ k∧k ≤ (al_.n : Int))∧Aside0 (Below w.heap.size w wr)∧Aside0 (Bx w.heap.size 31 g2 wr s2.cs)∧Aside0 (Bx w.heap.size 31 g4 wr Scr.zero.cs)∧Aside0 (Bx w.heap.size 29 g6 wr p_.cs)∧Aside0 (Inv s.rows s.cols s2 wr (Nb ok w.heap.size [g6,g4,g2]))∧Aside0 (Row (Kd.int .u8) bl Bytes8 wr (Nb ok w.heap.size [g6,g4,g2]))∧Aside0 (ParIn p_ wr (Nb ok w.heap.size [g6,g4,g2]))∧Aside0 (Acts 3 al_ wr (Nb ok w.heap.size [g6,g4,g2])))
    case atStart=>exact ⟨0,s1,rfl,⟨by omega,by decide,by omega⟩,HB,BX2,BX4,BX6,HI,HL,NP,NA⟩
    case round =>
     clear HB BX2 BX4 BX6 HI HL NP NA;obtain ⟨k,s2,rfl,HK2,HB,BX2,BX4,BX6,HI,HL,NP,NA⟩:=hrel;have p7:=eq_true HK2.out.2.1;by_cases hlk : k < (al_.n : Int)
     ·have p8:=eq_true hlk;obtain ⟨adA,c,eA,hcA,hAct⟩:=acts_at NA.out HK2.out.2.1 hlk;replace hcA:=zA hcA;replace hAct:=zA hAct;have ek : Aside0 (wrap64 (k + 1) = k + 1):=⟨by
       have h1:=HK2.out;obtain ⟨la,hla,hln,_,_⟩:=Row.reads NA.out;have h2:=hla.1;unfold wrap64;omega⟩
      clear hlk;go_wp2_with (fail);have hb : Below wr.heap.size wr wr.drew:=(zE _ _).drew;replace BX2:=zA (zM BX2.out hb);replace BX4:=zA (zM BX4.out hb);replace BX6:=zA (zM BX6.out hb);replace HI:=zA (mvInv.call HI.out hb);replace HL:=zA (mvRow.call HL.out hb);replace NP:=zA (mvPar.call NP.out hb);replace NA:=zA (mvRow.call NA.out hb);(try replace hAct:=zA (mvAct.call hAct.out hb));replace HB:=zA (zJ HB.out HB.out.size hb);clear hb;refine start_ (n:=7) (S:=fun w'=>w'.heap[g2]? = some (.cells s2.cs 31 (0,0))∧∀ j u,c.cs.toList[j]? = some u → w'.cell? (adA.add (k.toNat * 6 + j)) = some u) (ds:=[5,6]) #[false,false,false,false,false,false,false] (by kernel_rfl) rfl rfl ⟨BX2.out.bx,hcA.out⟩ (fun hHeld=>?_);generalize World.drew wr = wD at HB BX2 BX4 BX6 HI HL NP NA hAct hHeld ⊢;refine pure_ (i:=1) (N:=(some 32)) (v:=?_) (a':=?_) #[false,true,false,false,false,false,false] rfl rfl (by kernel_rfl) (fun _ _ _ h=>h) (Or.inl ⟨by rfl,?_⟩) ?_ ?_;rotate_left
      ·intro w';go_simp;(with_reducible rfl)
      rotate_left
      ·simp only [Act.put,zP,zQ,zR,i64_w,i32_w];rfl
      refine pure_ (i:=2) (N:=(some 33)) (v:=?_) (a':=?_) #[false,true,true,false,false,false,false] rfl rfl (by kernel_rfl) (fun _ _ _ h=>h) (Or.inl ⟨by rfl,?_⟩) ?_ ?_;rotate_left
      ·intro w';go_simp;(with_reducible rfl)
      rotate_left
      ·simp only [Act.put,zP,zQ,zR,i64_w,i32_w];rfl
      refine pure_ (i:=3) (N:=(some 34)) (v:=?_) (a':=?_) #[false,true,true,true,false,false,false] rfl rfl (by kernel_rfl) (fun _ _ _ h=>h) (Or.inl ⟨by rfl,?_⟩) ?_ ?_;rotate_left
      ·intro w';go_simp;(with_reducible rfl)
      rotate_left
      ·simp only [Act.put,zP,zQ,zR,i64_w,i32_w];rfl
      refine take_ (i:=0) (N:=(some 31)) (v:=(.agg s2.cs)) (a':=?_) #[true,true,true,true,false,false,false] rfl rfl (by kernel_rfl) (fun _ _ _ h=>h) (Or.inl ⟨by rfl,?_⟩) hHeld ?_ ?_
      ·rintro w' ⟨hs0_,hs1_⟩
       exact bx_yieldw hs0_ rfl rfl Try.underlying31 rfl (Scr.sizes s2)
      rotate_left
      ·simp only [Act.put,zP,zQ,zR,i64_w,i32_w];rfl
      refine take_ (i:=4) (N:=(some 35)) (v:=(.agg c.cs)) (a':=?_) #[true,true,true,true,true,false,false] rfl rfl (by kernel_rfl) (fun _ _ _ h=>h) (Or.inl ⟨by rfl,?_⟩) hHeld ?_ ?_
      ·rintro w' ⟨hs0_,hs1_⟩
       exact act_yields hs1_ rfl rfl
      rotate_left
      ·simp only [Act.put,zP,zQ,zR,i64_w,i32_w];rfl
      refine last_ (i:=5) (N:=(some 36)) #[true,true,true,true,true,true,false] rfl rfl (by kernel_rfl) (by decide) (fun K hK=>?_);refine goes_ Try.func56 (by kernel_rfl) rfl _ (by rfl) rfl rfl rfl ?_;(try simp only [zS,zT,zU]);refine Calls.mono (do_inv _ _ _ HI.out hAct.out) ?_;rintro e w36 ⟨s_,rfl,NI0,hb⟩
      refine ⟨_,rfl,?_⟩;have NI:=zA (mvInv.back (ok:=ok) (n:=w.heap.size) (gs:=[g6,g4,g2]) NI0 HB.out.size (by simp only [zW,List.not_mem_nil,or_false];rintro g_ hg_;rcases hg_ with rfl|rfl|rfl <;> first|exact BX6.out.lt|exact BX4.out.lt|exact BX2.out.lt));clear NI0;replace BX2:=zA (zM BX2.out hb);replace BX4:=zA (zM BX4.out hb);replace BX6:=zA (zM BX6.out hb);replace HI:=zA (mvInv.call HI.out hb);replace HL:=zA (mvRow.call HL.out hb);replace NP:=zA (mvPar.call NP.out hb);replace NA:=zA (mvRow.call NA.out hb);(try replace hAct:=zA (mvAct.call hAct.out hb));replace HB:=zA (zJ HB.out HB.out.size hb);clear hb;clear hAct;refine hK.out _ _ ?_;clear hK K;refine norm_ (a':=?_) ?_ ?_;rotate_left
      ·show Act.put _ (some 36) _ = _
       simp only [Act.put,zP,zQ,zR,i64_w,i32_w];rfl
      refine last_ (i:=6) (N:=none) #[true,true,true,true,true,true,true] rfl rfl (by kernel_rfl) (by decide) (fun K hK=>?_);refine bx_store_if BX2.out (by rfl) rfl rfl rfl (cs':=Scr.cs s_) rfl (Scr.sizes _) rfl (Scr.all _) ?_;intro w37 hg bx;replace HB:=zA (zK HB.out BX2.out hg);replace BX4:=zA (zN BX4.out hg NE4_2.out);replace BX6:=zA (zN BX6.out hg NE6_2.out);replace HI:=zA (mvInv.grown HI.out hg (by simp));replace HL:=zA (mvRow.grown HL.out hg (by simp));replace NP:=zA (mvPar.grown NP.out hg (by simp));replace NA:=zA (mvRow.grown NA.out hg (by simp));(try replace NI:=zA (mvInv.grown NI.out hg (by simp)));clear BX2;have BX2:=zA bx;clear bx hg;refine hK.out _ _ ?_;clear hK K;refine done_ (by kernel_rfl) ?_;go_wp2_with (fail);go_roundg (((al_.n : Int) - (k + 1)).toNat)
      case measure=>have:=HK2.out;have:=zF p8;omega
      case rel=>exact ⟨k + 1,s_,by rw [ek.out],⟨rfl,by have:=HK2.out;omega,by have:=zF p8;omega⟩,HB,BX2,BX4,BX6,NI,HL,NP,NA⟩
     ·go_wp2_with (first|((with_reducible refine zH (t:=29) (p:=38) rfl ?_);refine par_put BX2.out rfl rfl rfl rfl rfl ?_;intro w_38 hg bx;replace HB:=zA (zK HB.out BX2.out hg);replace BX4:=zA (zN BX4.out hg NE4_2.out);replace BX6:=zA (zN BX6.out hg NE6_2.out);replace HI:=zA (mvInv.grown HI.out hg (by simp));replace HL:=zA (mvRow.grown HL.out hg (by simp));replace NP:=zA (mvPar.grown NP.out hg (by simp));replace NA:=zA (mvRow.grown NA.out hg (by simp));clear BX2;have BX2:=zA bx;clear bx hg)|((with_reducible refine zG (N:=37) rfl ?_);refine bx_load BX6.out rfl rfl rfl rfl Try.underlying29 rfl (Par.sizes _) ?_));go_roundg (((bl.n : Int) - (i + 1)).toNat)
      case measure=>have:=HK.out;have:=zF p6;omega
      case rel=>exact ⟨i + 1,s2.setPar p_,by rw [ei.out],⟨rfl,by have:=HK.out;omega,by have:=zF p6;omega⟩,HB,BX2,BX4,⟨mvInv.drop (Inv.setPar HI.out NP.out)⟩,⟨mvRow.drop HL.out⟩⟩
  ·clear hC hP hn;go_wp2_with (first|((with_reducible refine zG (N:=39) rfl ?_);refine bx_load BX2.out rfl rfl rfl rfl Try.underlying31 rfl (Scr.sizes _) ?_)|((with_reducible refine zH (t:=31) (p:=4) rfl ?_);refine bx_store BX4.out rfl rfl rfl rfl (cs':=Scr.cs _) rfl (Scr.sizes _) rfl (Scr.all _) ?_;intro w_39 hg bx;replace HB:=zA (zK HB.out BX4.out hg);replace BX2:=zA (zN BX2.out hg NE2_4.out);replace HI:=zA (mvInv.grown HI.out hg (by simp));replace HL:=zA (mvRow.grown HL.out hg (by simp));clear BX4;have BX4:=zA bx;clear bx hg)|(refine bx_ret rfl BX4.out rfl Try.underlying31 rfl (Scr.sizes _) ?_));exact ⟨_,rfl,mvInv.out (n:=w.heap.size) (gs:=[g4,g2]) HI.out,HB.out⟩
end Go.Proofs.Ytooageeehallbaa.Scr
namespace Go.Proofs.YtooageeehallbaaW.PrintWords
open Go.RowKit
namespace Kd
section
variable {P : Program} {ops : Array Oper} {rest : List Oper} {o : Oper} {a : Act} {Q : Exit → Act → World → Prop} {Kc : Act → World → Prop}
/-- append(v,y...),y a string: where the row lies,too -/
theorem run_append_str_at (w : World) (base : Nat) (t u ty e : TypeId) (i : TypeInfo) (ht : P.underlying t = some (.slice e)) (hu : P.underlying u = some .string) (hi : P.info? e = some i) (hz : i.zero = some (.int .u8 0))
 (hsize : i.size = 1) (hby : i.bytes = 1) (v : Value) (n : Nat) (xs : List Value) (hown : w.ownsRow base e 1 v n xs) (s : ByteArray) (hbytes : n + s.size ≤ 140737488355328) (hbase : base ≤ w.heap.size) :
 ∃ v' w',(Builtin.append_ #[t,u] ty #[v,.string s]).run P w = .ok v' w'∧w'.ownsRow base e 1 v' (n + s.size) (xs ++ Lib.strCells s)∧w.grownBy w' v.ownBlock∧(v'.ownBlock = v.ownBlock∨v'.ownBlock = some w.heap.size):=by
 obtain ⟨v',w',hr,h2,h3,h4⟩:=Lib.run_append_own_string (P:=P) w base t u ty e i ht hu hi hz hsize hby v n xs hown s (by simp only [maxLen];omega) hbytes hbase;refine ⟨v',w',hr,h2,h3,?_⟩;rcases hown.2 with ⟨rfl,hn⟩|⟨g,cap,cur,rfl,hbg,hg,hnc,hcm,hcs,htake⟩
 ·by_cases hm : s.size = 0
  ·rw [h4.2 ⟨rfl,hm⟩];exact .inl rfl
  ·subst hn;have hr2:=run_append_nil_string (P:=P) w t u ty e i (.int .u8 0) ht hu hi hz s (by omega) (by omega) (by rw [hby];omega);rw [hr] at hr2;injection hr2 with hv hw
   subst hv;exact .inr (by simp [Value.ownBlock])
 ·by_cases hroom : n + s.size ≤ cap
  ·have hcs' : cur.size = cap:=by simpa using hcs
   have hr2:=Lib.run_append_room_string (P:=P) w t u ty e i ht hu hi hsize g n cap cur hg s hroom (by omega);rw [hr] at hr2;injection hr2 with hv hw
   subst hv;exact .inl (by simp [Value.ownBlock])
  ·have hxl : xs.length = n:=by simpa using hown.1
   have holds : ∀ j u,xs[j]? = some u → w.cell? ((⟨g,0,none⟩ : Addr).add j) = some u:=hown.cells (g:=g) rfl;have hr2:=Lib.run_append_grow_string (P:=P) w t u ty e i (.int .u8 0) ht hu hi hz ⟨g,0,none⟩ n cap xs (by rw [hsize];simpa using hxl) holds s (by omega) (by omega) (by rw [hby];exact growslice_fits (by omega) (by omega));rw [hr] at hr2;injection hr2 with hv hw
   subst hv;exact .inr (by simp [Value.ownBlock])
theorem append_str_row {W w1 : World} {base e : Nat} {ok : Nat → Prop} {v v1 : Value} {xs : List Int} {y : ByteArray} (HO : (Kd.int .u8).R e W base ok v xs) (hfresh : ∀ k,W.heap.size ≤ k → ok k)
 (h2 : w1.ownsRow base e 1 v1 (xs.length + y.size) (nums .u8 xs ++ Lib.strCells y)) (hat : v1.ownBlock = v.ownBlock∨v1.ownBlock = some W.heap.size) : (Kd.int .u8).R e w1 base ok v1 (xs ++ bytesOf y):=by
 have hl2 : (xs ++ bytesOf y).length = xs.length + y.size:=by rw [List.length_append,bytesOf_length]
 have hc : encs (Value.int .u8) (xs ++ bytesOf y) = nums .u8 xs ++ Lib.strCells y:=by
  rw [encs_append];congr 1
  simp [encs,bytesOf,Lib.strCells]
 refine R_of_own (h1:=fun _=>rfl) (by rw [hl2,hc];exact h2) (fun k hk=>?_);rcases hat with hat|hat
 ·exact HO.1 k (hat ▸ hk)
 ·rw [hat] at hk;injection hk with hk
  exact hfresh k (by omega)
theorem R_append_str {w0 W : World} (base : Nat) (hgd : o.guard = none) (s x : Operand) (t u e : TypeId)
 (ho : o.op = .call { callee:=.builtin .append,args:=#[s,x],argTypes:=#[t,u] })
 (ht : P.underlying t = some (.slice e)) (hu : P.underlying u = some .string) (hinfo : (P.info? e).map (fun i=>(i.zero,i.size,i.bytes)) = some (some (.int .u8 0),1,1))
 (v : Value) (xs : List Int) (y : ByteArray) (ok : Nat → Prop) (hs : a.eval s = v) (hx : a.eval x = .string y)
 (HO : (Kd.int .u8).R e W base ok v xs) (hfresh : ∀ k,W.heap.size ≤ k → ok k) (HB : Below base w0 W) (hbase : base ≤ W.heap.size) (hl : xs.length + y.size ≤ 140737488355328)
 (h : ∀ v1 w1,(Kd.int .u8).R e w1 base ok v1 (xs ++ bytesOf y) → Below base w0 w1 → W.grownBy w1 v.ownBlock → (v1.ownBlock = v.ownBlock∨∃ b,v1.ownBlock = some b∧W.heap.size ≤ b) → wpList P ops Q rest (a.put o.dst v1) w1) :
 wpList P ops Q (o :: rest) a W:=by
 obtain ⟨i0,hi,hzz⟩:=Option.map_eq_some_iff.1 hinfo;simp only [Prod.mk.injEq] at hzz;obtain ⟨hz0,hz1,hz2⟩:=hzz;have hown:=own_of_R HO;obtain ⟨v',w',hr,h2,hg,hat⟩:=run_append_str_at (P:=P) W base t u o.type e i0 ht hu hi hz0 hz1 hz2 v xs.length (nums .u8 xs) hown y hl hbase;refine wpList_plain hgd fun K hK=>?_
 unfold Oper.wp execOp;simp only [ho,resolve,invoke,builtin,Sem.run_bind,Sem.run_pure,Result.andThen_ok,List.map_toArray,List.map_cons,List.map_nil,hs,hx,hr];exact hK _ _ (h v' w' (append_str_row HO hfresh h2 hat) (HB.grown hg hbase (own_base hown)) hg (hat.imp id (fun h=>⟨_,h,Nat.le_refl _⟩)))
end
end Kd
end Go.Proofs.YtooageeehallbaaW.PrintWords
namespace Go.Proofs.Ytooageeehallbaa.QRunsCut
open Go.RowKit Go.Proofs.YtooageeehallbaaW.PrintWords Go.Proofs.YtooageeehallbaaW.PrintLast Go.Proofs.YtooageeehallbaaW.PrintMore
attribute [local go_sem] max2_int min2_int max_two min_two max_three min_three max_four min_four 
set_option linter.unusedVariables false
set_option linter.unusedSimpArgs false
/-! ### repriseseat_Bytes: function 38 -/
def repriseseat_Bytes.l0 : Nat → List Int → List ByteArray → List Int → Int → Option (List Int)
|0,_,_,_,_=>none
|k + 1,x0,x3,x4,x5=>if x5 < (x0.length : Int) then (if 0 ≤ x5 then (if (x3.length : Int) = 0 then (none) else (if 0 ≤ (Int.tmod (wrap64 (rd x0 x5)) (x3.length : Int)) then (if (Int.tmod (wrap64 (rd x0 x5)) (x3.length : Int)) < (x3.length : Int) then (if x4.length + (rdOf ByteArray.empty x3 (Int.tmod (wrap64 (rd x0 x5)) (x3.length : Int))).size < 140737488355328 then (repriseseat_Bytes.l0 k x0 x3 (x4 ++ bytesOf (rdOf ByteArray.empty x3 (Int.tmod (wrap64 (rd x0 x5)) (x3.length : Int)))) (wrap64 (x5 + 1))) else (none)) else (none)) else (none))) else (none)) else (some x4)
def repriseseat_Bytes.f (k : Nat) (l0 : List Int) : Option (List Int):=repriseseat_Bytes.l0 k l0 (([(⟨#[97,98]⟩ : ByteArray),(⟨#[120]⟩ : ByteArray),(⟨#[230,188,162]⟩ : ByteArray),(⟨#[195,169]⟩ : ByteArray),(⟨#[13,10]⟩ : ByteArray),(⟨#[10]⟩ : ByteArray),(⟨#[13]⟩ : ByteArray),(⟨#[8]⟩ : ByteArray),(⟨#[9]⟩ : ByteArray),(⟨#[27,91,65]⟩ : ByteArray),(⟨#[27,91,51,66]⟩ : ByteArray),(⟨#[27,91,50,67]⟩ : ByteArray),(⟨#[27,91,68]⟩ : ByteArray),(⟨#[27,91,50,59,51,72]⟩ : ByteArray),(⟨#[27,91,74]⟩ : ByteArray),(⟨#[27,91,49,74]⟩ : ByteArray),(⟨#[27,91,50,74]⟩ : ByteArray),(⟨#[27,91,75]⟩ : ByteArray),(⟨#[27,91,49,75]⟩ : ByteArray),(⟨#[27,91,76]⟩ : ByteArray),(⟨#[27,91,50,77]⟩ : ByteArray),(⟨#[27,91,50,64]⟩ : ByteArray),(⟨#[27,91,80]⟩ : ByteArray),(⟨#[27,91,51,88]⟩ : ByteArray),(⟨#[27,91,83]⟩ : ByteArray),(⟨#[27,91,84]⟩ : ByteArray),(⟨#[27,91,50,59,52,114]⟩ : ByteArray),(⟨#[27,91,114]⟩ : ByteArray),(⟨#[27,77]⟩ : ByteArray),(⟨#[27,68]⟩ : ByteArray),(⟨#[27,69]⟩ : ByteArray),(⟨#[27,55]⟩ : ByteArray),(⟨#[27,56]⟩ : ByteArray),(⟨#[27,99]⟩ : ByteArray),(⟨#[27,72]⟩ : ByteArray),(⟨#[27,91,103]⟩ : ByteArray),(⟨#[27,91,51,103]⟩ : ByteArray),(⟨#[27,91,49,59,51,49,109]⟩ : ByteArray),(⟨#[27,91,48,59,52,59,52,55,109]⟩ : ByteArray),(⟨#[27,91,109]⟩ : ByteArray),(⟨#[27,91,63,55,108]⟩ : ByteArray),(⟨#[27,91,63,55,104]⟩ : ByteArray),(⟨#[27,91,63,50,53,108]⟩ : ByteArray),(⟨#[27,91,63,49,48,52,57,104]⟩ : ByteArray),(⟨#[27,91,63,49,48,52,57,108]⟩ : ByteArray),(⟨#[27,91,53,71]⟩ : ByteArray),(⟨#[27,91,50,100]⟩ : ByteArray),(⟨#[27,93,48,59,116,7]⟩ : ByteArray),(⟨#[27,80,49,27,92]⟩ : ByteArray),(⟨#[230]⟩ : ByteArray),(⟨#[255]⟩ : ByteArray),(⟨#[27,91]⟩ : ByteArray),(⟨#[27]⟩ : ByteArray),(⟨#[49,50,59]⟩ : ByteArray),(⟨#[24]⟩ : ByteArray),(⟨#[97,98,99,100,101,102,103,104]⟩ : ByteArray),(⟨#[27,91,57,57,57,57,57,57,57,57,57,57,57,109]⟩ : ByteArray),(⟨#[27,40,66]⟩ : ByteArray),(⟨#[27,91,49,58,50,109]⟩ : ByteArray),(⟨#[27,91,62,99]⟩ : ByteArray),(⟨#[195]⟩ : ByteArray),(⟨#[169]⟩ : ByteArray),(⟨#[229,173,151,229,173,151]⟩ : ByteArray),(⟨#[27,91,33,112]⟩ : ByteArray),(⟨#[204,129]⟩ : ByteArray),(⟨#[12]⟩ : ByteArray),(⟨#[127]⟩ : ByteArray),(⟨#[27,91,59,72]⟩ : ByteArray),(⟨#[27,91,48,75]⟩ : ByteArray)] : List ByteArray)) ([] : List Int) 0
theorem repriseseat_Bytes.mono_l : ∀ k,(∀ y0 y1 y2 y3,LeO (repriseseat_Bytes.l0 k y0 y1 y2 y3) (repriseseat_Bytes.l0 (k + 1) y0 y1 y2 y3))
|0=>fun _ _ _ _ r h=>by simp [repriseseat_Bytes.l0] at h
|k + 1=>by
  have ih0:=repriseseat_Bytes.mono_l k
  ·intro y0 y1 y2 y3;unfold repriseseat_Bytes.l0;repeat' first
  |(with_reducible exact ih0 _ _ _ _)
  |(with_reducible exact LeO.refl _)
  |(with_reducible exact LeO.none _)
  |(with_reducible refine LeO.ite ?_ ?_)
  |(with_reducible refine LeO.bind ?_ (fun _=>?_))
  |exact ih0 _ _ _ _
  |exact LeO.none _
  |refine LeO.ite ?_ ?_
  |refine LeO.bind ?_ (fun _=>?_)
theorem repriseseat_Bytes.mono : ∀ a0 k,LeO (repriseseat_Bytes.f k a0) (repriseseat_Bytes.f (k + 1) a0):=by
 intro a0 k;have ih0:=repriseseat_Bytes.mono_l k;unfold repriseseat_Bytes.f;repeat' first
 |(with_reducible exact ih0 _ _ _ _)
 |(with_reducible exact LeO.refl _)
 |(with_reducible exact LeO.none _)
 |(with_reducible refine LeO.ite ?_ ?_)
 |(with_reducible refine LeO.bind ?_ (fun _=>?_))
 |exact ih0 _ _ _ _
 |exact LeO.none _
 |refine LeO.ite ?_ ?_
 |refine LeO.bind ?_ (fun _=>?_)
set_option maxHeartbeats 8000000 in
set_option maxRecDepth 100000 in
theorem repriseseat_Bytes.calls (k : Nat) (A0 : Option Addr) (c0 : Nat) (l0 : List Int) (r : List Int) (w : World) (hr0 : Kd.C (Kd.int .u8) w A0 l0.length l0) (hc0 : l0.length ≤ c0) (h : repriseseat_Bytes.f k l0 = some r) :
 Calls Try.prog 38 #[.slice A0 l0.length c0] w fun e w'=>∃ v0_ : Value,e = .returned (v0_)∧Kd.R (Kd.int .u8) 5 w' w.heap.size (fun _=>True) v0_ r∧Below w.heap.size w w':=by
 have HR0:=zA hr0;have HC0:=zA hc0;clear hr0 hc0;have HB:=zA (zE w.heap.size w);have H : (repriseseat_Bytes.l0 k l0 (([(⟨#[97,98]⟩ : ByteArray),(⟨#[120]⟩ : ByteArray),(⟨#[230,188,162]⟩ : ByteArray),(⟨#[195,169]⟩ : ByteArray),(⟨#[13,10]⟩ : ByteArray),(⟨#[10]⟩ : ByteArray),(⟨#[13]⟩ : ByteArray),(⟨#[8]⟩ : ByteArray),(⟨#[9]⟩ : ByteArray),(⟨#[27,91,65]⟩ : ByteArray),(⟨#[27,91,51,66]⟩ : ByteArray),(⟨#[27,91,50,67]⟩ : ByteArray),(⟨#[27,91,68]⟩ : ByteArray),(⟨#[27,91,50,59,51,72]⟩ : ByteArray),(⟨#[27,91,74]⟩ : ByteArray),(⟨#[27,91,49,74]⟩ : ByteArray),(⟨#[27,91,50,74]⟩ : ByteArray),(⟨#[27,91,75]⟩ : ByteArray),(⟨#[27,91,49,75]⟩ : ByteArray),(⟨#[27,91,76]⟩ : ByteArray),(⟨#[27,91,50,77]⟩ : ByteArray),(⟨#[27,91,50,64]⟩ : ByteArray),(⟨#[27,91,80]⟩ : ByteArray),(⟨#[27,91,51,88]⟩ : ByteArray),(⟨#[27,91,83]⟩ : ByteArray),(⟨#[27,91,84]⟩ : ByteArray),(⟨#[27,91,50,59,52,114]⟩ : ByteArray),(⟨#[27,91,114]⟩ : ByteArray),(⟨#[27,77]⟩ : ByteArray),(⟨#[27,68]⟩ : ByteArray),(⟨#[27,69]⟩ : ByteArray),(⟨#[27,55]⟩ : ByteArray),(⟨#[27,56]⟩ : ByteArray),(⟨#[27,99]⟩ : ByteArray),(⟨#[27,72]⟩ : ByteArray),(⟨#[27,91,103]⟩ : ByteArray),(⟨#[27,91,51,103]⟩ : ByteArray),(⟨#[27,91,49,59,51,49,109]⟩ : ByteArray),(⟨#[27,91,48,59,52,59,52,55,109]⟩ : ByteArray),(⟨#[27,91,109]⟩ : ByteArray),(⟨#[27,91,63,55,108]⟩ : ByteArray),(⟨#[27,91,63,55,104]⟩ : ByteArray),(⟨#[27,91,63,50,53,108]⟩ : ByteArray),(⟨#[27,91,63,49,48,52,57,104]⟩ : ByteArray),(⟨#[27,91,63,49,48,52,57,108]⟩ : ByteArray),(⟨#[27,91,53,71]⟩ : ByteArray),(⟨#[27,91,50,100]⟩ : ByteArray),(⟨#[27,93,48,59,116,7]⟩ : ByteArray),(⟨#[27,80,49,27,92]⟩ : ByteArray),(⟨#[230]⟩ : ByteArray),(⟨#[255]⟩ : ByteArray),(⟨#[27,91]⟩ : ByteArray),(⟨#[27]⟩ : ByteArray),(⟨#[49,50,59]⟩ : ByteArray),(⟨#[24]⟩ : ByteArray),(⟨#[97,98,99,100,101,102,103,104]⟩ : ByteArray),(⟨#[27,91,57,57,57,57,57,57,57,57,57,57,57,109]⟩ : ByteArray),(⟨#[27,40,66]⟩ : ByteArray),(⟨#[27,91,49,58,50,109]⟩ : ByteArray),(⟨#[27,91,62,99]⟩ : ByteArray),(⟨#[195]⟩ : ByteArray),(⟨#[169]⟩ : ByteArray),(⟨#[229,173,151,229,173,151]⟩ : ByteArray),(⟨#[27,91,33,112]⟩ : ByteArray),(⟨#[204,129]⟩ : ByteArray),(⟨#[12]⟩ : ByteArray),(⟨#[127]⟩ : ByteArray),(⟨#[27,91,59,72]⟩ : ByteArray),(⟨#[27,91,48,75]⟩ : ByteArray)] : List ByteArray)) ([] : List Int) 0) = some r:=h;clear h;obtain ⟨y1095,hy1095⟩ : ∃ y_ : List ByteArray,y_ = (([(⟨#[97,98]⟩ : ByteArray),(⟨#[120]⟩ : ByteArray),(⟨#[230,188,162]⟩ : ByteArray),(⟨#[195,169]⟩ : ByteArray),(⟨#[13,10]⟩ : ByteArray),(⟨#[10]⟩ : ByteArray),(⟨#[13]⟩ : ByteArray),(⟨#[8]⟩ : ByteArray),(⟨#[9]⟩ : ByteArray),(⟨#[27,91,65]⟩ : ByteArray),(⟨#[27,91,51,66]⟩ : ByteArray),(⟨#[27,91,50,67]⟩ : ByteArray),(⟨#[27,91,68]⟩ : ByteArray),(⟨#[27,91,50,59,51,72]⟩ : ByteArray),(⟨#[27,91,74]⟩ : ByteArray),(⟨#[27,91,49,74]⟩ : ByteArray),(⟨#[27,91,50,74]⟩ : ByteArray),(⟨#[27,91,75]⟩ : ByteArray),(⟨#[27,91,49,75]⟩ : ByteArray),(⟨#[27,91,76]⟩ : ByteArray),(⟨#[27,91,50,77]⟩ : ByteArray),(⟨#[27,91,50,64]⟩ : ByteArray),(⟨#[27,91,80]⟩ : ByteArray),(⟨#[27,91,51,88]⟩ : ByteArray),(⟨#[27,91,83]⟩ : ByteArray),(⟨#[27,91,84]⟩ : ByteArray),(⟨#[27,91,50,59,52,114]⟩ : ByteArray),(⟨#[27,91,114]⟩ : ByteArray),(⟨#[27,77]⟩ : ByteArray),(⟨#[27,68]⟩ : ByteArray),(⟨#[27,69]⟩ : ByteArray),(⟨#[27,55]⟩ : ByteArray),(⟨#[27,56]⟩ : ByteArray),(⟨#[27,99]⟩ : ByteArray),(⟨#[27,72]⟩ : ByteArray),(⟨#[27,91,103]⟩ : ByteArray),(⟨#[27,91,51,103]⟩ : ByteArray),(⟨#[27,91,49,59,51,49,109]⟩ : ByteArray),(⟨#[27,91,48,59,52,59,52,55,109]⟩ : ByteArray),(⟨#[27,91,109]⟩ : ByteArray),(⟨#[27,91,63,55,108]⟩ : ByteArray),(⟨#[27,91,63,55,104]⟩ : ByteArray),(⟨#[27,91,63,50,53,108]⟩ : ByteArray),(⟨#[27,91,63,49,48,52,57,104]⟩ : ByteArray),(⟨#[27,91,63,49,48,52,57,108]⟩ : ByteArray),(⟨#[27,91,53,71]⟩ : ByteArray),(⟨#[27,91,50,100]⟩ : ByteArray),(⟨#[27,93,48,59,116,7]⟩ : ByteArray),(⟨#[27,80,49,27,92]⟩ : ByteArray),(⟨#[230]⟩ : ByteArray),(⟨#[255]⟩ : ByteArray),(⟨#[27,91]⟩ : ByteArray),(⟨#[27]⟩ : ByteArray),(⟨#[49,50,59]⟩ : ByteArray),(⟨#[24]⟩ : ByteArray),(⟨#[97,98,99,100,101,102,103,104]⟩ : ByteArray),(⟨#[27,91,57,57,57,57,57,57,57,57,57,57,57,109]⟩ : ByteArray),(⟨#[27,40,66]⟩ : ByteArray),(⟨#[27,91,49,58,50,109]⟩ : ByteArray),(⟨#[27,91,62,99]⟩ : ByteArray),(⟨#[195]⟩ : ByteArray),(⟨#[169]⟩ : ByteArray),(⟨#[229,173,151,229,173,151]⟩ : ByteArray),(⟨#[27,91,33,112]⟩ : ByteArray),(⟨#[204,129]⟩ : ByteArray),(⟨#[12]⟩ : ByteArray),(⟨#[127]⟩ : ByteArray),(⟨#[27,91,59,72]⟩ : ByteArray),(⟨#[27,91,48,75]⟩ : ByteArray)] : List ByteArray)):=⟨_,rfl⟩;replace H : (repriseseat_Bytes.l0 k l0 y1095 ([] : List Int) 0) = some r:=by (rw [hy1095];with_reducible exact H)
 have Ny1095:=zA hy1095;clear hy1095;have H':=zA H;clear H;go_enter Try.func38,Try.ntmps38
 go_wp2_with (((with_reducible refine zG (N:=6) rfl ?_);refine Kd.R_lit Kd.string _ 9 ?hg (N:=6) ?hd (xs:=([(⟨#[97,98]⟩ : ByteArray),(⟨#[120]⟩ : ByteArray),(⟨#[230,188,162]⟩ : ByteArray),(⟨#[195,169]⟩ : ByteArray),(⟨#[13,10]⟩ : ByteArray),(⟨#[10]⟩ : ByteArray),(⟨#[13]⟩ : ByteArray),(⟨#[8]⟩ : ByteArray),(⟨#[9]⟩ : ByteArray),(⟨#[27,91,65]⟩ : ByteArray),(⟨#[27,91,51,66]⟩ : ByteArray),(⟨#[27,91,50,67]⟩ : ByteArray),(⟨#[27,91,68]⟩ : ByteArray),(⟨#[27,91,50,59,51,72]⟩ : ByteArray),(⟨#[27,91,74]⟩ : ByteArray),(⟨#[27,91,49,74]⟩ : ByteArray),(⟨#[27,91,50,74]⟩ : ByteArray),(⟨#[27,91,75]⟩ : ByteArray),(⟨#[27,91,49,75]⟩ : ByteArray),(⟨#[27,91,76]⟩ : ByteArray),(⟨#[27,91,50,77]⟩ : ByteArray),(⟨#[27,91,50,64]⟩ : ByteArray),(⟨#[27,91,80]⟩ : ByteArray),(⟨#[27,91,51,88]⟩ : ByteArray),(⟨#[27,91,83]⟩ : ByteArray),(⟨#[27,91,84]⟩ : ByteArray),(⟨#[27,91,50,59,52,114]⟩ : ByteArray),(⟨#[27,91,114]⟩ : ByteArray),(⟨#[27,77]⟩ : ByteArray),(⟨#[27,68]⟩ : ByteArray),(⟨#[27,69]⟩ : ByteArray),(⟨#[27,55]⟩ : ByteArray),(⟨#[27,56]⟩ : ByteArray),(⟨#[27,99]⟩ : ByteArray),(⟨#[27,72]⟩ : ByteArray),(⟨#[27,91,103]⟩ : ByteArray),(⟨#[27,91,51,103]⟩ : ByteArray),(⟨#[27,91,49,59,51,49,109]⟩ : ByteArray),(⟨#[27,91,48,59,52,59,52,55,109]⟩ : ByteArray),(⟨#[27,91,109]⟩ : ByteArray),(⟨#[27,91,63,55,108]⟩ : ByteArray),(⟨#[27,91,63,55,104]⟩ : ByteArray),(⟨#[27,91,63,50,53,108]⟩ : ByteArray),(⟨#[27,91,63,49,48,52,57,104]⟩ : ByteArray),(⟨#[27,91,63,49,48,52,57,108]⟩ : ByteArray),(⟨#[27,91,53,71]⟩ : ByteArray),(⟨#[27,91,50,100]⟩ : ByteArray),(⟨#[27,93,48,59,116,7]⟩ : ByteArray),(⟨#[27,80,49,27,92]⟩ : ByteArray),(⟨#[230]⟩ : ByteArray),(⟨#[255]⟩ : ByteArray),(⟨#[27,91]⟩ : ByteArray),(⟨#[27]⟩ : ByteArray),(⟨#[49,50,59]⟩ : ByteArray),(⟨#[24]⟩ : ByteArray),(⟨#[97,98,99,100,101,102,103,104]⟩ : ByteArray),(⟨#[27,91,57,57,57,57,57,57,57,57,57,57,57,109]⟩ : ByteArray),(⟨#[27,40,66]⟩ : ByteArray),(⟨#[27,91,49,58,50,109]⟩ : ByteArray),(⟨#[27,91,62,99]⟩ : ByteArray),(⟨#[195]⟩ : ByteArray),(⟨#[169]⟩ : ByteArray),(⟨#[229,173,151,229,173,151]⟩ : ByteArray),(⟨#[27,91,33,112]⟩ : ByteArray),(⟨#[204,129]⟩ : ByteArray),(⟨#[12]⟩ : ByteArray),(⟨#[127]⟩ : ByteArray),(⟨#[27,91,59,72]⟩ : ByteArray),(⟨#[27,91,48,75]⟩ : ByteArray)] : List ByteArray)) (inner:=[.string (⟨#[97,98]⟩ : ByteArray),.string (⟨#[120]⟩ : ByteArray),.string (⟨#[230,188,162]⟩ : ByteArray),.string (⟨#[195,169]⟩ : ByteArray),.string (⟨#[13,10]⟩ : ByteArray),.string (⟨#[10]⟩ : ByteArray),.string (⟨#[13]⟩ : ByteArray),.string (⟨#[8]⟩ : ByteArray),.string (⟨#[9]⟩ : ByteArray),.string (⟨#[27,91,65]⟩ : ByteArray),.string (⟨#[27,91,51,66]⟩ : ByteArray),.string (⟨#[27,91,50,67]⟩ : ByteArray),.string (⟨#[27,91,68]⟩ : ByteArray),.string (⟨#[27,91,50,59,51,72]⟩ : ByteArray),.string (⟨#[27,91,74]⟩ : ByteArray),.string (⟨#[27,91,49,74]⟩ : ByteArray),.string (⟨#[27,91,50,74]⟩ : ByteArray),.string (⟨#[27,91,75]⟩ : ByteArray),.string (⟨#[27,91,49,75]⟩ : ByteArray),.string (⟨#[27,91,76]⟩ : ByteArray),.string (⟨#[27,91,50,77]⟩ : ByteArray),.string (⟨#[27,91,50,64]⟩ : ByteArray),.string (⟨#[27,91,80]⟩ : ByteArray),.string (⟨#[27,91,51,88]⟩ : ByteArray),.string (⟨#[27,91,83]⟩ : ByteArray),.string (⟨#[27,91,84]⟩ : ByteArray),.string (⟨#[27,91,50,59,52,114]⟩ : ByteArray),.string (⟨#[27,91,114]⟩ : ByteArray),.string (⟨#[27,77]⟩ : ByteArray),.string (⟨#[27,68]⟩ : ByteArray),.string (⟨#[27,69]⟩ : ByteArray),.string (⟨#[27,55]⟩ : ByteArray),.string (⟨#[27,56]⟩ : ByteArray),.string (⟨#[27,99]⟩ : ByteArray),.string (⟨#[27,72]⟩ : ByteArray),.string (⟨#[27,91,103]⟩ : ByteArray),.string (⟨#[27,91,51,103]⟩ : ByteArray),.string (⟨#[27,91,49,59,51,49,109]⟩ : ByteArray),.string (⟨#[27,91,48,59,52,59,52,55,109]⟩ : ByteArray),.string (⟨#[27,91,109]⟩ : ByteArray),.string (⟨#[27,91,63,55,108]⟩ : ByteArray),.string (⟨#[27,91,63,55,104]⟩ : ByteArray),.string (⟨#[27,91,63,50,53,108]⟩ : ByteArray),.string (⟨#[27,91,63,49,48,52,57,104]⟩ : ByteArray),.string (⟨#[27,91,63,49,48,52,57,108]⟩ : ByteArray),.string (⟨#[27,91,53,71]⟩ : ByteArray),.string (⟨#[27,91,50,100]⟩ : ByteArray),.string (⟨#[27,93,48,59,116,7]⟩ : ByteArray),.string (⟨#[27,80,49,27,92]⟩ : ByteArray),.string (⟨#[230]⟩ : ByteArray),.string (⟨#[255]⟩ : ByteArray),.string (⟨#[27,91]⟩ : ByteArray),.string (⟨#[27]⟩ : ByteArray),.string (⟨#[49,50,59]⟩ : ByteArray),.string (⟨#[24]⟩ : ByteArray),.string (⟨#[97,98,99,100,101,102,103,104]⟩ : ByteArray),.string (⟨#[27,91,57,57,57,57,57,57,57,57,57,57,57,109]⟩ : ByteArray),.string (⟨#[27,40,66]⟩ : ByteArray),.string (⟨#[27,91,49,58,50,109]⟩ : ByteArray),.string (⟨#[27,91,62,99]⟩ : ByteArray),.string (⟨#[195]⟩ : ByteArray),.string (⟨#[169]⟩ : ByteArray),.string (⟨#[229,173,151,229,173,151]⟩ : ByteArray),.string (⟨#[27,91,33,112]⟩ : ByteArray),.string (⟨#[204,129]⟩ : ByteArray),.string (⟨#[12]⟩ : ByteArray),.string (⟨#[127]⟩ : ByteArray),.string (⟨#[27,91,59,72]⟩ : ByteArray),.string (⟨#[27,91,48,75]⟩ : ByteArray)]) (ok:=fun _=>True) (okp:=fun _=>True) ?hr ?hp (fun _ hk=>hk) trivial (zE _ _) (Nat.le_refl _) (by simp) ?_;(case hd=>rfl);(case hg=>rfl);(case hr=>(go_simp;done));(case hp=>exact (Reps.one (show Kd.M Kd.string _ _ _ (⟨#[97,98]⟩ : ByteArray) [.string (⟨#[97,98]⟩ : ByteArray)] from rfl) (Reps.one (show Kd.M Kd.string _ _ _ (⟨#[120]⟩ : ByteArray) [.string (⟨#[120]⟩ : ByteArray)] from rfl) (Reps.one (show Kd.M Kd.string _ _ _ (⟨#[230,188,162]⟩ : ByteArray) [.string (⟨#[230,188,162]⟩ : ByteArray)] from rfl) (Reps.one (show Kd.M Kd.string _ _ _ (⟨#[195,169]⟩ : ByteArray) [.string (⟨#[195,169]⟩ : ByteArray)] from rfl) (Reps.one (show Kd.M Kd.string _ _ _ (⟨#[13,10]⟩ : ByteArray) [.string (⟨#[13,10]⟩ : ByteArray)] from rfl) (Reps.one (show Kd.M Kd.string _ _ _ (⟨#[10]⟩ : ByteArray) [.string (⟨#[10]⟩ : ByteArray)] from rfl) (Reps.one (show Kd.M Kd.string _ _ _ (⟨#[13]⟩ : ByteArray) [.string (⟨#[13]⟩ : ByteArray)] from rfl) (Reps.one (show Kd.M Kd.string _ _ _ (⟨#[8]⟩ : ByteArray) [.string (⟨#[8]⟩ : ByteArray)] from rfl) (Reps.one (show Kd.M Kd.string _ _ _ (⟨#[9]⟩ : ByteArray) [.string (⟨#[9]⟩ : ByteArray)] from rfl) (Reps.one (show Kd.M Kd.string _ _ _ (⟨#[27,91,65]⟩ : ByteArray) [.string (⟨#[27,91,65]⟩ : ByteArray)] from rfl) (Reps.one (show Kd.M Kd.string _ _ _ (⟨#[27,91,51,66]⟩ : ByteArray) [.string (⟨#[27,91,51,66]⟩ : ByteArray)] from rfl) (Reps.one (show Kd.M Kd.string _ _ _ (⟨#[27,91,50,67]⟩ : ByteArray) [.string (⟨#[27,91,50,67]⟩ : ByteArray)] from rfl) (Reps.one (show Kd.M Kd.string _ _ _ (⟨#[27,91,68]⟩ : ByteArray) [.string (⟨#[27,91,68]⟩ : ByteArray)] from rfl) (Reps.one (show Kd.M Kd.string _ _ _ (⟨#[27,91,50,59,51,72]⟩ : ByteArray) [.string (⟨#[27,91,50,59,51,72]⟩ : ByteArray)] from rfl) (Reps.one (show Kd.M Kd.string _ _ _ (⟨#[27,91,74]⟩ : ByteArray) [.string (⟨#[27,91,74]⟩ : ByteArray)] from rfl) (Reps.one (show Kd.M Kd.string _ _ _ (⟨#[27,91,49,74]⟩ : ByteArray) [.string (⟨#[27,91,49,74]⟩ : ByteArray)] from rfl) (Reps.one (show Kd.M Kd.string _ _ _ (⟨#[27,91,50,74]⟩ : ByteArray) [.string (⟨#[27,91,50,74]⟩ : ByteArray)] from rfl) (Reps.one (show Kd.M Kd.string _ _ _ (⟨#[27,91,75]⟩ : ByteArray) [.string (⟨#[27,91,75]⟩ : ByteArray)] from rfl) (Reps.one (show Kd.M Kd.string _ _ _ (⟨#[27,91,49,75]⟩ : ByteArray) [.string (⟨#[27,91,49,75]⟩ : ByteArray)] from rfl) (Reps.one (show Kd.M Kd.string _ _ _ (⟨#[27,91,76]⟩ : ByteArray) [.string (⟨#[27,91,76]⟩ : ByteArray)] from rfl) (Reps.one (show Kd.M Kd.string _ _ _ (⟨#[27,91,50,77]⟩ : ByteArray) [.string (⟨#[27,91,50,77]⟩ : ByteArray)] from rfl) (Reps.one (show Kd.M Kd.string _ _ _ (⟨#[27,91,50,64]⟩ : ByteArray) [.string (⟨#[27,91,50,64]⟩ : ByteArray)] from rfl) (Reps.one (show Kd.M Kd.string _ _ _ (⟨#[27,91,80]⟩ : ByteArray) [.string (⟨#[27,91,80]⟩ : ByteArray)] from rfl) (Reps.one (show Kd.M Kd.string _ _ _ (⟨#[27,91,51,88]⟩ : ByteArray) [.string (⟨#[27,91,51,88]⟩ : ByteArray)] from rfl) (Reps.one (show Kd.M Kd.string _ _ _ (⟨#[27,91,83]⟩ : ByteArray) [.string (⟨#[27,91,83]⟩ : ByteArray)] from rfl) (Reps.one (show Kd.M Kd.string _ _ _ (⟨#[27,91,84]⟩ : ByteArray) [.string (⟨#[27,91,84]⟩ : ByteArray)] from rfl) (Reps.one (show Kd.M Kd.string _ _ _ (⟨#[27,91,50,59,52,114]⟩ : ByteArray) [.string (⟨#[27,91,50,59,52,114]⟩ : ByteArray)] from rfl) (Reps.one (show Kd.M Kd.string _ _ _ (⟨#[27,91,114]⟩ : ByteArray) [.string (⟨#[27,91,114]⟩ : ByteArray)] from rfl) (Reps.one (show Kd.M Kd.string _ _ _ (⟨#[27,77]⟩ : ByteArray) [.string (⟨#[27,77]⟩ : ByteArray)] from rfl) (Reps.one (show Kd.M Kd.string _ _ _ (⟨#[27,68]⟩ : ByteArray) [.string (⟨#[27,68]⟩ : ByteArray)] from rfl) (Reps.one (show Kd.M Kd.string _ _ _ (⟨#[27,69]⟩ : ByteArray) [.string (⟨#[27,69]⟩ : ByteArray)] from rfl) (Reps.one (show Kd.M Kd.string _ _ _ (⟨#[27,55]⟩ : ByteArray) [.string (⟨#[27,55]⟩ : ByteArray)] from rfl) (Reps.one (show Kd.M Kd.string _ _ _ (⟨#[27,56]⟩ : ByteArray) [.string (⟨#[27,56]⟩ : ByteArray)] from rfl) (Reps.one (show Kd.M Kd.string _ _ _ (⟨#[27,99]⟩ : ByteArray) [.string (⟨#[27,99]⟩ : ByteArray)] from rfl) (Reps.one (show Kd.M Kd.string _ _ _ (⟨#[27,72]⟩ : ByteArray) [.string (⟨#[27,72]⟩ : ByteArray)] from rfl) (Reps.one (show Kd.M Kd.string _ _ _ (⟨#[27,91,103]⟩ : ByteArray) [.string (⟨#[27,91,103]⟩ : ByteArray)] from rfl) (Reps.one (show Kd.M Kd.string _ _ _ (⟨#[27,91,51,103]⟩ : ByteArray) [.string (⟨#[27,91,51,103]⟩ : ByteArray)] from rfl) (Reps.one (show Kd.M Kd.string _ _ _ (⟨#[27,91,49,59,51,49,109]⟩ : ByteArray) [.string (⟨#[27,91,49,59,51,49,109]⟩ : ByteArray)] from rfl) (Reps.one (show Kd.M Kd.string _ _ _ (⟨#[27,91,48,59,52,59,52,55,109]⟩ : ByteArray) [.string (⟨#[27,91,48,59,52,59,52,55,109]⟩ : ByteArray)] from rfl) (Reps.one (show Kd.M Kd.string _ _ _ (⟨#[27,91,109]⟩ : ByteArray) [.string (⟨#[27,91,109]⟩ : ByteArray)] from rfl) (Reps.one (show Kd.M Kd.string _ _ _ (⟨#[27,91,63,55,108]⟩ : ByteArray) [.string (⟨#[27,91,63,55,108]⟩ : ByteArray)] from rfl) (Reps.one (show Kd.M Kd.string _ _ _ (⟨#[27,91,63,55,104]⟩ : ByteArray) [.string (⟨#[27,91,63,55,104]⟩ : ByteArray)] from rfl) (Reps.one (show Kd.M Kd.string _ _ _ (⟨#[27,91,63,50,53,108]⟩ : ByteArray) [.string (⟨#[27,91,63,50,53,108]⟩ : ByteArray)] from rfl) (Reps.one (show Kd.M Kd.string _ _ _ (⟨#[27,91,63,49,48,52,57,104]⟩ : ByteArray) [.string (⟨#[27,91,63,49,48,52,57,104]⟩ : ByteArray)] from rfl) (Reps.one (show Kd.M Kd.string _ _ _ (⟨#[27,91,63,49,48,52,57,108]⟩ : ByteArray) [.string (⟨#[27,91,63,49,48,52,57,108]⟩ : ByteArray)] from rfl) (Reps.one (show Kd.M Kd.string _ _ _ (⟨#[27,91,53,71]⟩ : ByteArray) [.string (⟨#[27,91,53,71]⟩ : ByteArray)] from rfl) (Reps.one (show Kd.M Kd.string _ _ _ (⟨#[27,91,50,100]⟩ : ByteArray) [.string (⟨#[27,91,50,100]⟩ : ByteArray)] from rfl) (Reps.one (show Kd.M Kd.string _ _ _ (⟨#[27,93,48,59,116,7]⟩ : ByteArray) [.string (⟨#[27,93,48,59,116,7]⟩ : ByteArray)] from rfl) (Reps.one (show Kd.M Kd.string _ _ _ (⟨#[27,80,49,27,92]⟩ : ByteArray) [.string (⟨#[27,80,49,27,92]⟩ : ByteArray)] from rfl) (Reps.one (show Kd.M Kd.string _ _ _ (⟨#[230]⟩ : ByteArray) [.string (⟨#[230]⟩ : ByteArray)] from rfl) (Reps.one (show Kd.M Kd.string _ _ _ (⟨#[255]⟩ : ByteArray) [.string (⟨#[255]⟩ : ByteArray)] from rfl) (Reps.one (show Kd.M Kd.string _ _ _ (⟨#[27,91]⟩ : ByteArray) [.string (⟨#[27,91]⟩ : ByteArray)] from rfl) (Reps.one (show Kd.M Kd.string _ _ _ (⟨#[27]⟩ : ByteArray) [.string (⟨#[27]⟩ : ByteArray)] from rfl) (Reps.one (show Kd.M Kd.string _ _ _ (⟨#[49,50,59]⟩ : ByteArray) [.string (⟨#[49,50,59]⟩ : ByteArray)] from rfl) (Reps.one (show Kd.M Kd.string _ _ _ (⟨#[24]⟩ : ByteArray) [.string (⟨#[24]⟩ : ByteArray)] from rfl) (Reps.one (show Kd.M Kd.string _ _ _ (⟨#[97,98,99,100,101,102,103,104]⟩ : ByteArray) [.string (⟨#[97,98,99,100,101,102,103,104]⟩ : ByteArray)] from rfl) (Reps.one (show Kd.M Kd.string _ _ _ (⟨#[27,91,57,57,57,57,57,57,57,57,57,57,57,109]⟩ : ByteArray) [.string (⟨#[27,91,57,57,57,57,57,57,57,57,57,57,57,109]⟩ : ByteArray)] from rfl) (Reps.one (show Kd.M Kd.string _ _ _ (⟨#[27,40,66]⟩ : ByteArray) [.string (⟨#[27,40,66]⟩ : ByteArray)] from rfl) (Reps.one (show Kd.M Kd.string _ _ _ (⟨#[27,91,49,58,50,109]⟩ : ByteArray) [.string (⟨#[27,91,49,58,50,109]⟩ : ByteArray)] from rfl) (Reps.one (show Kd.M Kd.string _ _ _ (⟨#[27,91,62,99]⟩ : ByteArray) [.string (⟨#[27,91,62,99]⟩ : ByteArray)] from rfl) (Reps.one (show Kd.M Kd.string _ _ _ (⟨#[195]⟩ : ByteArray) [.string (⟨#[195]⟩ : ByteArray)] from rfl) (Reps.one (show Kd.M Kd.string _ _ _ (⟨#[169]⟩ : ByteArray) [.string (⟨#[169]⟩ : ByteArray)] from rfl) (Reps.one (show Kd.M Kd.string _ _ _ (⟨#[229,173,151,229,173,151]⟩ : ByteArray) [.string (⟨#[229,173,151,229,173,151]⟩ : ByteArray)] from rfl) (Reps.one (show Kd.M Kd.string _ _ _ (⟨#[27,91,33,112]⟩ : ByteArray) [.string (⟨#[27,91,33,112]⟩ : ByteArray)] from rfl) (Reps.one (show Kd.M Kd.string _ _ _ (⟨#[204,129]⟩ : ByteArray) [.string (⟨#[204,129]⟩ : ByteArray)] from rfl) (Reps.one (show Kd.M Kd.string _ _ _ (⟨#[12]⟩ : ByteArray) [.string (⟨#[12]⟩ : ByteArray)] from rfl) (Reps.one (show Kd.M Kd.string _ _ _ (⟨#[127]⟩ : ByteArray) [.string (⟨#[127]⟩ : ByteArray)] from rfl) (Reps.one (show Kd.M Kd.string _ _ _ (⟨#[27,91,59,72]⟩ : ByteArray) [.string (⟨#[27,91,59,72]⟩ : ByteArray)] from rfl) (Reps.one (show Kd.M Kd.string _ _ _ (⟨#[27,91,48,75]⟩ : ByteArray) [.string (⟨#[27,91,48,75]⟩ : ByteArray)] from rfl) (Reps.none _ _)))))))))))))))))))))))))))))))))))))))))))))))))))))))))))))))))))))));intro v1096 w2 ho3 hb hg_ hnew_;clear hg_ hnew_;(rw [← Ny1095.out] at ho3);have n0_:=zA (Kd.R_lower ho3 (below_size HB.out));have n1_:=zA (below_step HB.out hb);clear HB;have HO1097:=n0_;have HB:=n1_;clear n0_ n1_;clear hb ho3));go_loopg [4,5] k (fun kq v4 v5 w'=>∃ (x4_1 : List Int) (x5_1 : Int),v5 = .int .i64 x5_1∧Aside0 (repriseseat_Bytes.l0 kq l0 y1095 x4_1 x5_1 = some r)∧Aside0 (kq ≤ k)∧Aside0 (Kd.R Kd.string 9 w' w.heap.size (fun _=>True) v1096 y1095)∧Aside0 (Kd.R (Kd.int .u8) 5 w' w.heap.size (fun _=>True) v4 x4_1)∧Aside0 (Below w.heap.size w w'))
 case atStart=>exact ⟨(([] : List Int)),(0),(by rfl),H',⟨Nat.le_refl _⟩,⟨HO1097.out⟩,⟨by exact Kd.R_nil _ _ _ _ _⟩,⟨HB.out⟩⟩
 case round =>
  clear H';(try clear p2);(try clear c3);obtain ⟨x4_1,x5_1,rfl,HA,HK1,HO_3,HO_4,HB⟩:=hrel;cases gk with
 |zero=>exact absurd HA.out (by simp [repriseseat_Bytes.l0])
 |succ k1 =>
   have H:=HA.out;clear HA;simp only [repriseseat_Bytes.l0] at H;by_cases c4 : x5_1 < (l0.length : Int)
   ·rw [if_pos c4] at H;have c4b0 : decide (x5_1 < (l0.length : Int)) = true:=zC c4;clear c4;by_cases c5 : 0 ≤ x5_1
    ·rw [if_pos c5] at H;have c5b0 : decide (0 ≤ x5_1) = true:=zC c5;clear c5;by_cases c6 : (y1095.length : Int) = 0
     ·rw [if_pos c6] at H;exact absurd H (by simp)
     ·rw [if_neg c6] at H;have c6b0 : ((y1095.length : Int) == 0) = false:=beq_eq_false_iff_ne.mpr c6;have c6b1 : ((y1095.length : Int) != 0) = true:=bne_iff_ne.mpr c6;have c6b2 : ¬ (y1095 = []):=fun h_=>c6 (by rw [h_];rfl)
      obtain ⟨ji7,hji7⟩ : ∃ j_ : Int,(Int.tmod (wrap64 (rd l0 x5_1)) (y1095.length : Int)) = j_:=⟨_,rfl⟩;replace H : (if 0 ≤ (ji7) then (if (ji7) < (y1095.length : Int) then (if x4_1.length + (rdOf ByteArray.empty y1095 (ji7)).size < 140737488355328 then (repriseseat_Bytes.l0 k1 l0 y1095 (x4_1 ++ bytesOf (rdOf ByteArray.empty y1095 (ji7))) (wrap64 (x5_1 + 1))) else (none)) else (none)) else (none)) = some r:=by (rw [hji7] at H;exact H)
      by_cases c8 : 0 ≤ (ji7)
      ·rw [if_pos c8] at H;have c8b0 : decide (0 ≤ (ji7)) = true:=zC c8;clear c8;by_cases c9 : (ji7) < (y1095.length : Int)
       ·rw [if_pos c9] at H;have c9b0 : decide ((ji7) < (y1095.length : Int)) = true:=zC c9;clear c9;by_cases c10 : x4_1.length + (rdOf ByteArray.empty y1095 (ji7)).size < 140737488355328
        ·rw [if_pos c10] at H;have LMc10:=zA c10;clear c10;obtain ⟨y1100,hy1100⟩ : ∃ y_ : List Int,y_ = (x4_1 ++ bytesOf (rdOf ByteArray.empty y1095 (ji7))):=⟨_,rfl⟩;replace H : (repriseseat_Bytes.l0 k1 l0 y1095 y1100 (wrap64 (x5_1 + 1))) = some r:=by (rw [hy1100];with_reducible exact H)
         have Ny1100:=zA hy1100;clear hy1100;have H':=zA H;clear H;have p1098 : 0 ≤ (x5_1 : Int):=od;have q1098 : x5_1 < (l0.length : Int):=od;obtain ⟨ad1098,e1098,hx1098_0⟩:=Kd.at_int HR0.out x5_1 p1098 q1098;cases e1098;replace hx1098_0:=cx HB hx1098_0;replace p1098:=eq_true p1098;replace q1098:=eq_true q1098;obtain ⟨Ao11,co11,eo11⟩:=Kd.R_slice HO_3.out;subst eo11;have p1099 : 0 ≤ ((ji7) : Int):=od;have q1099 : (ji7) < (y1095.length : Int):=od;obtain ⟨ad1099,e1099,hx1099_0⟩:=Kd.at_string (Kd.R_reads' HO_3.out).2.2 (ji7) p1099 q1099;cases e1099;replace p1099:=eq_true p1099;replace q1099:=eq_true q1099;go_wp2_with ((at_builtin;refine Kd.R_append_str (w0:=w) w.heap.size rfl (.tmp 13) _ 22 9 5 rfl Try.underlying22 Try.underlying9 info5 u4 x4_1 (rdOf ByteArray.empty y1095 (ji7)) (fun _=>True) rfl rfl ?aO ?aF ?aB ?aS ?aL ?_;(case aB=>exact HB.out);(case aF=>exact (fun _ _=>trivial));(case aO=>exact HO_4.out);(case aS=>exact (below_size HB.out));(case aL=>have:=LMc10.out;omega);intro v1101 w12 ho hb hg hat;rw [← Ny1100.out] at ho;have n0_:=zA (Kd.R_over' HO_3.out (Kd.R_typed HO_4.out) (by decide) hg);have n1_:=zA (hb);have n2_:=zA (ho);clear HO_3;clear HB;clear HO_4;have HO_3:=n0_;have HB:=n1_;have HO1102:=n2_;clear n0_ n1_ n2_;clear ho hb hg hat));go_roundg k1
         case measure=>have:=HK1.out;omega
         case rel=>exact ⟨(y1100),(wrap64 (x5_1 + 1)),(by rfl),H',⟨by have:=HK1.out;omega⟩,⟨HO_3.out⟩,⟨HO1102.out⟩,⟨HB.out⟩⟩
        ·rw [if_neg c10] at H;exact absurd H (by simp)
       ·rw [if_neg c9] at H;exact absurd H (by simp)
      ·rw [if_neg c8] at H;exact absurd H (by simp)
    ·rw [if_neg c5] at H;exact absurd H (by simp)
   ·rw [if_neg c4] at H;have c4b0 : decide (x5_1 < (l0.length : Int)) = false:=zD c4;clear c4;obtain rfl:=zY H;go_wp2;go_ret;exact ⟨_,by rfl,HO_4.out,HB.out⟩
-- NOT PRINTED: function 11 (repriseseat_Screen)
end Go.Proofs.Ytooageeehallbaa.QRunsCut
namespace Go.Proofs.Ytooageeehallbaa.Scr
open Go.RowKit Go.Proofs.YtooageeehallbaaW.PrintWords Go.Proofs.YtooageeehallbaaW.PrintLast Go.Proofs.YtooageeehallbaaW.PrintMore Go.Proofs.Ytooageeehallbaa.QRunsCut
set_option linter.unusedVariables false
theorem bytesOf_ok (s : ByteArray) : Bytes8 (bytesOf s):=by
 intro b hb;unfold bytesOf at hb;obtain ⟨u,_,rfl⟩:=List.mem_map.1 hb;have:=u.toNat_lt;omega
theorem bytesOf_len (s : ByteArray) : (bytesOf s).length = s.size:=by
 unfold bytesOf;rw [List.length_map,Array.length_toList];rfl
theorem bytes_run {L : List Int} (hL : Bytes8 L) (hlen : L.length ≤ 1000) (P : List ByteArray) (hP0 : 0 < P.length) (hP1 : P.length ≤ 1000) (hP : ∀ s ∈ P,s.size ≤ 20) : ∀ (m i : Nat) (o : List Int),i + m = L.length → o.length ≤ 20 * i → Bytes8 o → ∃ k o',repriseseat_Bytes.l0 k L P o (i : Int) = some o'∧Bytes8 o'∧o'.length ≤ 20000
|0,i,o,hm,ho,hb=>by
  refine ⟨1,o,?_,hb,by omega⟩;rw [repriseseat_Bytes.l0,if_neg (by omega)]
|m + 1,i,o,hm,ho,hb=>by
  have hx : 0 ≤ rd L (i : Int)∧rd L (i : Int) ≤ 255:=by
   unfold rd;rw [List.getD_eq_getElem?_getD,Int.toNat_natCast,List.getElem?_eq_getElem (by omega)];exact hL _ (List.getElem_mem _)
  have hw : wrap64 (rd L (i : Int)) = rd L (i : Int):=by unfold wrap64;omega
  have h0 : 0 ≤ Int.tmod (rd L (i : Int)) (P.length : Int):=Int.tmod_nonneg _ hx.1;have h1 : Int.tmod (rd L (i : Int)) (P.length : Int) < (P.length : Int):=Int.tmod_lt_of_pos _ (by omega);have hs : (rdOf ByteArray.empty P (Int.tmod (rd L (i : Int)) (P.length : Int))).size ≤ 20:=by
   unfold rdOf;rw [List.getD_eq_getElem?_getD,List.getElem?_eq_getElem (by omega)];exact hP _ (List.getElem_mem _)
  obtain ⟨k,o',hk,ho'⟩:=bytes_run hL hlen P hP0 hP1 hP m (i + 1) (o ++ bytesOf (rdOf ByteArray.empty P (Int.tmod (rd L (i : Int)) (P.length : Int)))) (by omega) (by rw [zV,bytesOf_len];omega) (fun x hx=>(List.mem_append.1 hx).elim (hb x) (bytesOf_ok _ x));refine ⟨k + 1,o',?_,ho'⟩;rw [repriseseat_Bytes.l0,if_pos (by omega),if_pos (by omega),if_neg (by omega),hw,if_pos h0,if_pos h1,if_pos (by omega),show wrap64 ((i : Int) + 1) = (i : Int) + 1 by unfold wrap64;omega];exact hk
theorem bytes_ok {L : List Int} (hL : Bytes8 L) (hlen : L.length ≤ 1000) : ∃ k o,repriseseat_Bytes.f k L = some o∧Bytes8 o∧o.length ≤ 20000:=by
 unfold repriseseat_Bytes.f;exact bytes_run hL hlen _ (by decide) (by decide) (by decide) L.length 0 [] (by omega) (by decide) (fun _ h=>by cases h)
theorem bytes_call {l : Sl} {W : World} {ok : Nat → Prop} (hl : Row (Kd.int .u8) l (fun l=>Bytes8 l∧l.length ≤ 1000) W ok) : Calls Try.prog 38 #[.slice l.A l.n l.c] W fun e w'=>∃ q : Sl,e = .returned (.slice q.A q.n q.c)∧Row (Kd.int .u8) q Bytes8 w' (fun k=>W.heap.size ≤ k)∧Below W.heap.size W w':=by
 obtain ⟨L,hP,hn,hlc,hC⟩:=Row.reads hl;obtain ⟨k,o,hf,ho,_⟩:=bytes_ok hP.1 hP.2;rw [hn];refine (QRunsCut.repriseseat_Bytes.calls k l.A l.c L o W hC hlc hf).mono ?_;rintro e w' ⟨v0,rfl,hR,hbl⟩
 obtain ⟨c0,rfl,h0⟩:=Row.made (P:=Bytes8) hR ho;exact ⟨c0,rfl,h0,hbl⟩
end Go.Proofs.Ytooageeehallbaa.Scr
namespace Go.Proofs.Ytooageeehallbaa.Scr
open Go.RowKit Go.Proofs.YtooageeehallbaaW.PrintWords Go.Proofs.YtooageeehallbaaW.PrintLast Go.Proofs.YtooageeehallbaaW.PrintMore Go.Proofs.Ytooageeehallbaa.QRunsCut
attribute [local go_sem] max2_int min2_int max_two min_two max_three min_three max_four min_four 
set_option linter.unusedVariables false
set_option linter.unusedSimpArgs false
set_option maxHeartbeats 4000000 in
set_option maxRecDepth 100000 in
theorem seat_inv {ok : Nat → Prop} (r c : Int) (hr : 0 ≤ r∧r ≤ 255) (hc : 0 ≤ c∧c ≤ 255) (bl : Sl) (w : World) (hl : Row (Kd.int .u8) bl (fun l=>Bytes8 l∧l.length ≤ 1000) w ok) :
 Calls Try.prog 11 #[.int .u8 r,.int .u8 c,.slice bl.A bl.n bl.c] w (fun e w'=>∃ s',e = .returned (.agg (Scr.cs s'))∧Inv (r % 6 + 1) (c % 9 + 1) s' w' (fun k=>ok k∨w.heap.size ≤ k)∧Below w.heap.size w w'):=by
 have HB:=zA (zE w.heap.size w);have HL:=zA (mvRow.enter hl (n:=w.heap.size) rfl);clear hl;have hsm : Aside0 (Small (r % 6 + 1) (c % 9 + 1)):=⟨⟨by omega,by omega,by omega,by omega⟩⟩;have e1 : wrap64 (wrap64 (Int.tmod r 6) + 1) = r % 6 + 1:=by
  rw [Int.tmod_eq_emod_of_nonneg hr.1];unfold wrap64;omega
 have e2 : wrap64 (wrap64 (Int.tmod c 9) + 1) = c % 9 + 1:=by
  rw [Int.tmod_eq_emod_of_nonneg hc.1];unfold wrap64;omega
 have hsm2 : Aside0 (Small (wrap64 (wrap64 (Int.tmod r 6) + 1)) (wrap64 (wrap64 (Int.tmod c 9) + 1))):=⟨by rw [e1,e2];exact hsm.out⟩;replace hr:=zA hr;replace hc:=zA hc;go_enter Try.func11,Try.ntmps11
 go_wp2_with (first|((with_reducible refine zG (N:=6) rfl ?_);refine bx_alloc (t:=31) (n:=w.heap.size) (cs:=Scr.zero.cs) rfl rfl rfl Scr.infoz HB.out.size ?_;intro g6 w6 hN hg bx;replace HB:=zA (zL HB.out HB.out.size hg);replace HL:=zA (mvRow.fresh HL.out hN hg);have BX6:=zA bx;clear hN hg bx)|((with_reducible refine zG (N:=18) rfl ?_);refine goesL_ (some 18) rfl rfl Try.func36 (by kernel_rfl) rfl _ rfl rfl ?_;(try simp only [zS,zT,zU]);refine Calls.mono (new_inv _ _ _ hsm2.out) ?_;rintro e w18 ⟨s_,rfl,NI0,hb⟩;rw [e1,e2] at NI0;have HI:=zA (mvInv.new (ok:=ok) (n:=w.heap.size) (gs:=[g6]) NI0 HB.out.size (by simp only [zW,List.not_mem_nil,or_false];rintro g_ rfl;exact BX6.out.lt));clear NI0;replace BX6:=zA (zM BX6.out hb);replace HL:=zA (mvRow.call HL.out hb);replace HB:=zA (zJ HB.out HB.out.size hb);clear hb;refine ⟨_,rfl,?_⟩)|((with_reducible refine zG (N:=7) rfl ?_);refine bx_alloc (t:=31) (n:=w.heap.size) (cs:=Scr.zero.cs) rfl rfl rfl Scr.infoz HB.out.size ?_;intro g7 w7 hN hg bx;replace HB:=zA (zL HB.out HB.out.size hg);have NE6_7:=zA (show g6 ≠ g7 from by have:=BX6.out.lt;omega);have NE7_6:=zA (Ne.symm NE6_7.out);replace BX6:=zA (zO BX6.out hg);replace HL:=zA (mvRow.fresh HL.out hN hg);(try replace HI:=zA (mvInv.fresh HI.out hN hg));have BX7:=zA bx;clear hN hg bx)|((with_reducible refine zH (t:=31) (p:=7) rfl ?_);refine bx_store BX7.out rfl rfl rfl rfl (cs':=Scr.cs _) rfl (Scr.sizes _) rfl (Scr.all _) ?_;intro w_19 hg bx;replace HB:=zA (zK HB.out BX7.out hg);replace BX6:=zA (zN BX6.out hg NE6_7.out);replace HL:=zA (mvRow.grown HL.out hg (by simp));(try replace HI:=zA (mvInv.grown HI.out hg (by simp)));clear BX7;have BX7:=zA bx;clear bx hg));have hb : Below w_19.heap.size w_19 w_19.drew:=(zE _ _).drew;replace BX6:=zA (zM BX6.out hb);replace BX7:=zA (zM BX7.out hb);replace HL:=zA (mvRow.call HL.out hb);(try replace HI:=zA (mvInv.call HI.out hb));replace HB:=zA (zJ HB.out HB.out.size hb);clear hb;refine start_ (n:=5) (S:=fun w'=>w'.heap[g7]? = some (.cells s_.cs 31 (0,0))) (ds:=[3,4]) #[false,false,false,false,false] (by kernel_rfl) rfl rfl BX7.out.bx (fun hHeld=>?_);generalize World.drew w_19 = wD at HB BX6 BX7 HL HI hHeld ⊢;refine pure_ (i:=1) (N:=(some 22)) (v:=?_) (a':=?_) #[false,true,false,false,false] rfl rfl (by kernel_rfl) (fun _ _ _ h=>h) (Or.inl ⟨by rfl,?_⟩) ?_ ?_;rotate_left
 ·intro w';go_simp;(with_reducible rfl)
 rotate_left
 ·simp only [Act.put,zP,zQ,zR,i64_w,i32_w];rfl
 refine take_ (i:=0) (N:=(some 21)) (v:=(.agg s_.cs)) (a':=?_) #[true,true,false,false,false] rfl rfl (by kernel_rfl) (fun _ _ _ h=>h) (Or.inl ⟨by rfl,?_⟩) hHeld ?_ ?_
 ·rintro w' hs0_
  exact bx_yieldw hs0_ rfl rfl Try.underlying31 rfl (Scr.sizes s_)
 rotate_left
 ·simp only [Act.put,zP,zQ,zR,i64_w,i32_w];rfl
 refine one_ (i:=2) (N:=(some 23)) #[true,true,true,false,false] rfl rfl (by kernel_rfl) (by decide) (fun K hK=>?_);refine goes_ Try.func38 (by kernel_rfl) rfl _ (by rfl) rfl rfl rfl ?_;(try simp only [zS,zT,zU]);refine Calls.mono (bytes_call HL.out) ?_;rintro e w23 ⟨q_,rfl,NQ0,hb⟩
 refine ⟨_,rfl,?_⟩;have NQ:=zA (mvRow.new (ok:=ok) (n:=w.heap.size) (gs:=[g7,g6]) NQ0 HB.out.size (by simp only [zW,List.not_mem_nil,or_false];rintro g_ hg_;rcases hg_ with rfl|rfl <;> first|exact BX6.out.lt|exact BX7.out.lt));clear NQ0;replace BX6:=zA (zM BX6.out hb);replace BX7:=zA (zM BX7.out hb);replace HL:=zA (mvRow.call HL.out hb);(try replace HI:=zA (mvInv.call HI.out hb));replace HB:=zA (zJ HB.out HB.out.size hb);clear hb;refine hK.out _ _ BX7.out.bx (fun hHeld=>?_);clear hK K;refine norm_ (a':=?_) ?_ ?_;rotate_left
 ·show Act.put _ (some 23) _ = _
  simp only [Act.put,zP,zQ,zR,i64_w,i32_w];rfl
 refine last_ (i:=3) (N:=(some 24)) #[true,true,true,true,false] rfl rfl (by kernel_rfl) (by decide) (fun K hK=>?_);refine goes_ Try.func37 (by kernel_rfl) rfl _ (by rfl) rfl rfl rfl ?_;(try simp only [zS,zT,zU]);refine Calls.mono (feed_inv _ _ _ HI.out NQ.out) ?_;rintro e w24 ⟨s2,rfl,NI0,hb⟩
 refine ⟨_,rfl,?_⟩;have NI:=zA (mvInv.back (ok:=ok) (n:=w.heap.size) (gs:=[g7,g6]) NI0 HB.out.size (by simp only [zW,List.not_mem_nil,or_false];rintro g_ hg_;rcases hg_ with rfl|rfl <;> first|exact BX6.out.lt|exact BX7.out.lt));clear NI0;replace BX6:=zA (zM BX6.out hb);replace BX7:=zA (zM BX7.out hb);replace HL:=zA (mvRow.call HL.out hb);(try replace HI:=zA (mvInv.call HI.out hb));(try replace NQ:=zA (mvRow.call NQ.out hb));replace HB:=zA (zJ HB.out HB.out.size hb);clear hb;refine hK.out _ _ ?_;clear hK K;refine norm_ (a':=?_) ?_ ?_;rotate_left
 ·show Act.put _ (some 24) _ = _
  simp only [Act.put,zP,zQ,zR,i64_w,i32_w];rfl
 refine last_ (i:=4) (N:=none) #[true,true,true,true,true] rfl rfl (by kernel_rfl) (by decide) (fun K hK=>?_);refine bx_store_if BX6.out (by rfl) rfl rfl rfl (cs':=Scr.cs s2) rfl (Scr.sizes _) rfl (Scr.all _) ?_;intro w25 hg bx;replace HB:=zA (zK HB.out BX6.out hg);replace BX7:=zA (zN BX7.out hg NE7_6.out);replace HL:=zA (mvRow.grown HL.out hg (by simp));(try replace HI:=zA (mvInv.grown HI.out hg (by simp)));(try replace NQ:=zA (mvRow.grown NQ.out hg (by simp)));(try replace NI:=zA (mvInv.grown NI.out hg (by simp)));clear BX6;have BX6:=zA bx;clear bx hg;refine hK.out _ _ ?_;clear hK K;refine done_ (by kernel_rfl) ?_;go_wp2_with ((refine bx_ret rfl BX6.out rfl Try.underlying31 rfl (Scr.sizes _) ?_));exact ⟨s2,rfl,mvInv.out (n:=w.heap.size) (gs:=[g7,g6]) NI.out,HB.out⟩
end Go.Proofs.Ytooageeehallbaa.Scr
namespace Go.Proofs.Ytooageeehallbaa.QRunsCut
open Go.RowKit Go.Proofs.YtooageeehallbaaW.PrintWords Go.Proofs.YtooageeehallbaaW.PrintLast Go.Proofs.YtooageeehallbaaW.PrintMore
attribute [local go_sem] max2_int min2_int max_two min_two max_three min_three max_four min_four 
set_option linter.unusedVariables false
set_option linter.unusedSimpArgs false
/-! ### leb_Read: function 59 -/
mutual
def leb_Read.l0 : Nat → List Int → Int → Int → Option (Int × Int × Int)
|0,_,_,_=>none
|k + 1,x0,x5,x8=>if x8 < 10 then (if x8 = (x0.length : Int) then (some (0,0,22)) else (if 0 ≤ x8 then (if x8 < (x0.length : Int) then (if x8 = 9 then (leb_Read.j1 k x0 x5 x8 (rd x0 x8) x8 (decide ((rd x0 x8) > 1))) else (leb_Read.j1 k x0 x5 x8 (rd x0 x8) x8 false)) else (none)) else (none))) else (some (0,0,21))
def leb_Read.j1 : Nat → List Int → Int → Int → Int → Int → Bool → Option (Int × Int × Int)
|0,_,_,_,_,_,_=>none
|k + 1,x0,x5,x6,x7,x8,x24=>if x24 = true then (some (0,0,21)) else (if 0 ≤ (wrap64 (7 * x6)) then (if x7 < 128 then (if x6 > 0 then (if x7 = 0 then (some (0,0,21)) else (some (Go.bits .or .u64 x5 (shl .u64 (IntKind.u64.wrap (Go.bits .andNot .u8 x7 128)) (wrap64 (7 * x6))),wrap64 (x6 + 1),0))) else (some (Go.bits .or .u64 x5 (shl .u64 (IntKind.u64.wrap (Go.bits .andNot .u8 x7 128)) (wrap64 (7 * x6))),wrap64 (x6 + 1),0))) else (leb_Read.l0 k x0 (Go.bits .or .u64 x5 (shl .u64 (IntKind.u64.wrap (Go.bits .andNot .u8 x7 128)) (wrap64 (7 * x6)))) (wrap64 (x8 + 1)))) else (none))
end
def leb_Read.f (k : Nat) (l0 : List Int) : Option (Int × Int × Int):=leb_Read.l0 k l0 0 0
theorem leb_Read.mono_l : ∀ k,(∀ y0 y1 y2,LeO (leb_Read.l0 k y0 y1 y2) (leb_Read.l0 (k + 1) y0 y1 y2))∧(∀ y0 y1 y2 y3 y4 y5,LeO (leb_Read.j1 k y0 y1 y2 y3 y4 y5) (leb_Read.j1 (k + 1) y0 y1 y2 y3 y4 y5))
|0=>⟨fun _ _ _ r h=>by simp [leb_Read.l0] at h,fun _ _ _ _ _ _ r h=>by simp [leb_Read.j1] at h⟩
|k + 1=>by
  obtain ⟨ih0,ih1⟩:=leb_Read.mono_l k;refine ⟨?_,?_⟩
  ·intro y0 y1 y2;unfold leb_Read.l0;repeat' first
  |(with_reducible exact ih0 _ _ _)
  |(with_reducible exact ih1 _ _ _ _ _ _)
  |(with_reducible exact LeO.refl _)
  |(with_reducible exact LeO.none _)
  |(with_reducible refine LeO.ite ?_ ?_)
  |(with_reducible refine LeO.bind ?_ (fun _=>?_))
  |exact ih0 _ _ _
  |exact ih1 _ _ _ _ _ _
  |exact LeO.none _
  |refine LeO.ite ?_ ?_
  |refine LeO.bind ?_ (fun _=>?_)
  ·intro y0 y1 y2 y3 y4 y5;unfold leb_Read.j1;repeat' first
  |(with_reducible exact ih0 _ _ _)
  |(with_reducible exact ih1 _ _ _ _ _ _)
  |(with_reducible exact LeO.refl _)
  |(with_reducible exact LeO.none _)
  |(with_reducible refine LeO.ite ?_ ?_)
  |(with_reducible refine LeO.bind ?_ (fun _=>?_))
  |exact ih0 _ _ _
  |exact ih1 _ _ _ _ _ _
  |exact LeO.none _
  |refine LeO.ite ?_ ?_
  |refine LeO.bind ?_ (fun _=>?_)
theorem leb_Read.mono : ∀ a0 k,LeO (leb_Read.f k a0) (leb_Read.f (k + 1) a0):=by
 intro a0 k;obtain ⟨ih0,ih1⟩:=leb_Read.mono_l k;unfold leb_Read.f;repeat' first
 |(with_reducible exact ih0 _ _ _)
 |(with_reducible exact ih1 _ _ _ _ _ _)
 |(with_reducible exact LeO.refl _)
 |(with_reducible exact LeO.none _)
 |(with_reducible refine LeO.ite ?_ ?_)
 |(with_reducible refine LeO.bind ?_ (fun _=>?_))
 |exact ih0 _ _ _
 |exact ih1 _ _ _ _ _ _
 |exact LeO.none _
 |refine LeO.ite ?_ ?_
 |refine LeO.bind ?_ (fun _=>?_)
set_option maxHeartbeats 8000000 in
set_option maxRecDepth 100000 in
theorem leb_Read.calls (k : Nat) (A0 : Option Addr) (c0 : Nat) (l0 : List Int) (r1 : Int) (r2 : Int) (r3 : Int) (w : World) (hr0 : Kd.C (Kd.int .u8) w A0 l0.length l0) (hc0 : l0.length ≤ c0) (h : leb_Read.f k l0 = some (r1,r2,r3)) :
 Calls Try.prog 59 #[.slice A0 l0.length c0] w fun e w'=>e = .returned (.tuple #[.int .u64 r1,.int .i64 r2,.int .i64 r3])∧Drawn0 w w':=by
 have HR0:=zA hr0;have HC0:=zA hc0;clear hr0 hc0;have H : (leb_Read.l0 k l0 0 0) = some (r1,r2,r3):=h;clear h;have H':=zA H;clear H;go_enter Try.func59,Try.ntmps59
 go_wp2;go_loopg [5,8] k (fun kq v5 v8 w'=>∃ (x5_1 : Int) (x8_1 : Int),v5 = .int .u64 x5_1∧v8 = .int .i64 x8_1∧Aside0 (leb_Read.l0 kq l0 x5_1 x8_1 = some (r1,r2,r3))∧Aside0 (kq ≤ k)∧Drawn0 w w')
 case atStart=>exact ⟨(0),(0),(by rfl),(by rfl),H',⟨Nat.le_refl _⟩,by exact Drawn0.refl _⟩
 case round =>
  clear H';obtain ⟨x5_1,x8_1,rfl,rfl,HA,HK1,⟨m1,rfl⟩⟩:=hrel;cases gk with
 |zero=>exact absurd HA.out (by simp [leb_Read.l0])
 |succ k1 =>
   have H:=HA.out;clear HA;simp only [leb_Read.l0] at H;by_cases c2 : x8_1 < 10
   ·rw [if_pos c2] at H;have c2b0 : decide (x8_1 < 10) = true:=zC c2;clear c2;by_cases c3 : x8_1 = (l0.length : Int)
    ·rw [if_pos c3] at H;have c3b0 : (x8_1 == (l0.length : Int)) = true:=beq_iff_eq.mpr c3;have c3b1 : (x8_1 != (l0.length : Int)) = false:=bne_eq_false_iff_eq.mpr c3;clear c3;simp only [Option.some.injEq,Prod.mk.injEq] at H;obtain ⟨rfl,rfl,rfl⟩:=H;go_wp2;go_ret3;exact ⟨by rfl,by repeat (first|exact Drawn0.refl _|apply Drawn0.step)⟩
    ·rw [if_neg c3] at H;have c3b0 : (x8_1 == (l0.length : Int)) = false:=beq_eq_false_iff_ne.mpr c3;have c3b1 : (x8_1 != (l0.length : Int)) = true:=bne_iff_ne.mpr c3;by_cases c4 : 0 ≤ x8_1
     ·rw [if_pos c4] at H;have c4b0 : decide (0 ≤ x8_1) = true:=zC c4;clear c4;by_cases c5 : x8_1 < (l0.length : Int)
      ·rw [if_pos c5] at H;have c5b0 : decide (x8_1 < (l0.length : Int)) = true:=zC c5;clear c5;have HC6:=zA H;clear H;have p1130 : 0 ≤ (x8_1 : Int):=od;have q1130 : x8_1 < (l0.length : Int):=od;obtain ⟨ad1130,e1130,hx1130_0⟩:=Kd.at_int HR0.out x8_1 p1130 q1130;cases e1130;replace p1130:=eq_true p1130;replace q1130:=eq_true q1130;go_upto_region 8 with (fail)
       go_cut [24] (fun v24 wc=>∃ (kq : Nat) (x24_5 : Bool),v24 = .bool x24_5∧Aside0 (leb_Read.j1 kq l0 x5_1 x8_1 (rd l0 x8_1) x8_1 x24_5 = some (r1,r2,r3))∧Aside0 (kq ≤ k1)∧Drawn0 w wc)
       case first =>
        have H:=HC6.out;clear HC6;by_cases c7 : x8_1 = 9
        ·rw [if_pos c7] at H;have c7b0 : (x8_1 == 9) = true:=beq_iff_eq.mpr c7;have c7b1 : (x8_1 != 9) = false:=bne_eq_false_iff_eq.mpr c7;clear c7;have H':=zA H;clear H;go_wp2;go_meet
         case rel=>exact ⟨_,(decide ((rd l0 x8_1) > 1)),(by rfl),H',⟨by have:=HK1.out;omega⟩,by repeat (first|exact Drawn0.refl _|apply Drawn0.step)⟩
        ·rw [if_neg c7] at H;have c7b0 : (x8_1 == 9) = false:=beq_eq_false_iff_ne.mpr c7;have c7b1 : (x8_1 != 9) = true:=bne_iff_ne.mpr c7;have H':=zA H;clear H;go_wp2;go_meet
         case rel=>exact ⟨_,(false),(by rfl),H',⟨by have:=HK1.out;omega⟩,by repeat (first|exact Drawn0.refl _|apply Drawn0.step)⟩
       case rest =>
        clear HC6;(try clear p1);(try clear q1);(try clear hx1);(try clear c2);(try clear c2b0);(try clear p2);(try clear c3);(try clear c3b0);(try clear c3b1);(try clear c4);(try clear c4b0);(try clear c5);(try clear c5b0);(try clear c7);(try clear c7b0);(try clear c7b1);(try clear hx1130_0);(try clear p1130);(try clear q1130);obtain ⟨kq,x24_5,rfl,HA,HJ5,⟨mc5,rfl⟩⟩:=hcut;cases kq with
       |zero=>exact absurd HA.out (by simp [leb_Read.j1])
       |succ kj5 =>
         have H:=HA.out;clear HA;simp only [leb_Read.j1] at H;by_cases c8 : x24_5 = true
         ·subst c8;have H1 : (some (0,0,21)) = some (r1,r2,r3):=by rw [if_pos rfl] at H;exact H
          clear H;have H:=H1;clear H1;simp only [Option.some.injEq,Prod.mk.injEq] at H;obtain ⟨rfl,rfl,rfl⟩:=H;go_wp2;go_ret3;exact ⟨by rfl,by repeat (first|exact Drawn0.refl _|apply Drawn0.step)⟩
         ·replace c8:=Bool.eq_false_iff.mpr c8;subst c8;have H1 : (if 0 ≤ (wrap64 (7 * x8_1)) then (if (rd l0 x8_1) < 128 then (if x8_1 > 0 then (if (rd l0 x8_1) = 0 then (some (0,0,21)) else (some (Go.bits .or .u64 x5_1 (shl .u64 (IntKind.u64.wrap (Go.bits .andNot .u8 (rd l0 x8_1) 128)) (wrap64 (7 * x8_1))),wrap64 (x8_1 + 1),0))) else (some (Go.bits .or .u64 x5_1 (shl .u64 (IntKind.u64.wrap (Go.bits .andNot .u8 (rd l0 x8_1) 128)) (wrap64 (7 * x8_1))),wrap64 (x8_1 + 1),0))) else (leb_Read.l0 kj5 l0 (Go.bits .or .u64 x5_1 (shl .u64 (IntKind.u64.wrap (Go.bits .andNot .u8 (rd l0 x8_1) 128)) (wrap64 (7 * x8_1)))) (wrap64 (x8_1 + 1)))) else (none)) = some (r1,r2,r3):=by rw [if_neg (show ¬ (false = true) by decide)] at H;exact H
          clear H;have H:=H1;clear H1;obtain ⟨ji9,hji9⟩ : ∃ j_ : Int,(wrap64 (7 * x8_1)) = j_:=⟨_,rfl⟩;replace H : (if 0 ≤ (ji9) then (if (rd l0 x8_1) < 128 then (if x8_1 > 0 then (if (rd l0 x8_1) = 0 then (some (0,0,21)) else (some (Go.bits .or .u64 x5_1 (shl .u64 (IntKind.u64.wrap (Go.bits .andNot .u8 (rd l0 x8_1) 128)) (ji9)),wrap64 (x8_1 + 1),0))) else (some (Go.bits .or .u64 x5_1 (shl .u64 (IntKind.u64.wrap (Go.bits .andNot .u8 (rd l0 x8_1) 128)) (ji9)),wrap64 (x8_1 + 1),0))) else (leb_Read.l0 kj5 l0 (Go.bits .or .u64 x5_1 (shl .u64 (IntKind.u64.wrap (Go.bits .andNot .u8 (rd l0 x8_1) 128)) (ji9))) (wrap64 (x8_1 + 1)))) else (none)) = some (r1,r2,r3):=by (rw [hji9] at H;exact H)
          have hji9w : (IntKind.i64.wrap (7 * x8_1)) = ji9:=(i64_w _).trans hji9;by_cases c10 : 0 ≤ (ji9)
          ·rw [if_pos c10] at H;have c10b0:=eq_true c10;have c10b1 : decide (0 ≤ (ji9)) = true:=zC c10;clear c10;obtain ⟨ji11,hji11⟩ : ∃ j_ : Int,(shl .u64 (IntKind.u64.wrap (Go.bits .andNot .u8 (rd l0 x8_1) 128)) (ji9)) = j_:=⟨_,rfl⟩;replace H : (if (rd l0 x8_1) < 128 then (if x8_1 > 0 then (if (rd l0 x8_1) = 0 then (some (0,0,21)) else (some (Go.bits .or .u64 x5_1 (ji11),wrap64 (x8_1 + 1),0))) else (some (Go.bits .or .u64 x5_1 (ji11),wrap64 (x8_1 + 1),0))) else (leb_Read.l0 kj5 l0 (Go.bits .or .u64 x5_1 (ji11)) (wrap64 (x8_1 + 1)))) = some (r1,r2,r3):=by (rw [hji11] at H;exact H)
           have hji11_ : (IntKind.u64.wrap ((IntKind.u64.wrap (Go.bits .andNot .u8 (rd l0 x8_1) 128)) * 2 ^ min (ji9).toNat 64)) = ji11:=hji11;have hji11z : (ji9) ≤ 64 → (IntKind.u64.wrap ((IntKind.u64.wrap (Go.bits .andNot .u8 (rd l0 x8_1) 128)) * 2 ^ (ji9).toNat)) = ji11:=shl_small hji11;by_cases c12 : (rd l0 x8_1) < 128
           ·rw [if_pos c12] at H;have c12b0 : decide ((rd l0 x8_1) < 128) = true:=zC c12;clear c12;by_cases c13 : x8_1 > 0
            ·rw [if_pos c13] at H;have c13b0 : decide (0 < x8_1) = true:=zC c13;clear c13;by_cases c14 : (rd l0 x8_1) = 0
             ·rw [if_pos c14] at H;have c14b0 : ((rd l0 x8_1) == 0) = true:=beq_iff_eq.mpr c14;have c14b1 : ((rd l0 x8_1) != 0) = false:=bne_eq_false_iff_eq.mpr c14;clear c14;simp only [Option.some.injEq,Prod.mk.injEq] at H;obtain ⟨rfl,rfl,rfl⟩:=H;go_wp2;go_ret3;exact ⟨by rfl,by repeat (first|exact Drawn0.refl _|apply Drawn0.step)⟩
             ·rw [if_neg c14] at H;have c14b0 : ((rd l0 x8_1) == 0) = false:=beq_eq_false_iff_ne.mpr c14;have c14b1 : ((rd l0 x8_1) != 0) = true:=bne_iff_ne.mpr c14;simp only [Option.some.injEq,Prod.mk.injEq] at H;obtain ⟨rfl,rfl,rfl⟩:=H;go_wp2;go_ret3;exact ⟨by rfl,by repeat (first|exact Drawn0.refl _|apply Drawn0.step)⟩
            ·rw [if_neg c13] at H;have c13b0 : decide (0 < x8_1) = false:=zD c13;clear c13;simp only [Option.some.injEq,Prod.mk.injEq] at H;obtain ⟨rfl,rfl,rfl⟩:=H;go_wp2;go_ret3;exact ⟨by rfl,by repeat (first|exact Drawn0.refl _|apply Drawn0.step)⟩
           ·rw [if_neg c12] at H;have c12b0 : decide ((rd l0 x8_1) < 128) = false:=zD c12;clear c12;have H':=zA H;clear H;go_wp2;go_roundg kj5
            case measure=>have:=HK1.out;have:=HJ5.out;omega
            case rel=>exact ⟨(Go.bits .or .u64 x5_1 (ji11)),(wrap64 (x8_1 + 1)),(by rfl),(by rfl),H',⟨by have:=HK1.out;have:=HJ5.out;omega⟩,by repeat (first|exact Drawn0.refl _|apply Drawn0.step)⟩
          ·rw [if_neg c10] at H;exact absurd H (by simp)
      ·rw [if_neg c5] at H;exact absurd H (by simp)
     ·rw [if_neg c4] at H;exact absurd H (by simp)
   ·rw [if_neg c2] at H;have c2b0 : decide (x8_1 < 10) = false:=zD c2;clear c2;simp only [Option.some.injEq,Prod.mk.injEq] at H;obtain ⟨rfl,rfl,rfl⟩:=H;go_wp2;go_ret3;exact ⟨by rfl,by repeat (first|exact Drawn0.refl _|apply Drawn0.step)⟩
/-! ### runs_run: function 49 -/
end Go.Proofs.Ytooageeehallbaa.QRunsCut
namespace Go.Proofs.Ytooageeehallbaa.Scr
open Go.RowKit Go.Proofs.YtooageeehallbaaW.PrintWords Go.Proofs.YtooageeehallbaaW.PrintLast Go.Proofs.YtooageeehallbaaW.PrintMore Go.Proofs.Ytooageeehallbaa.QRunsCut
attribute [local go_sem] max2_int min2_int max_two min_two max_three min_three max_four min_four 
set_option linter.unusedVariables false
set_option linter.unusedSimpArgs false
theorem one69 : (Try.prog.info? 69).map (·.size) = some 1:=by kernel_rfl
theorem bx_ret4 {P : Program} {n t g : Nat} {cs : Array Value} {W : World} {fn : Func} {p q r s : Tmp} {ty : TypeId} (hres : fn.results = #[.tmp q,.cell p ty,.tmp r,.tmp s]) {tmps : Array Value} {R : Ending → World → Prop} (b : Bx n t g W cs) (hp : tmps.getD p undef = .pointer (some ⟨g,0,none⟩))
 {d : TypeDesc} (hu : P.underlying ty = some d) (hty : (match d with|.struct _|.array _ _=>true|_=>false) = true) (hi : (P.info? ty).map (·.size) = some cs.size)
 (h : R (.returned (.tuple #[tmps.getD q undef,.agg cs,tmps.getD r undef,tmps.getD s undef])) W) : bodyPost P fn R .ret ⟨tmps,[]⟩ W:=by
 refine bodyPost_ret (v:=.tuple #[tmps.getD q undef,.agg cs,tmps.getD r undef,tmps.getD s undef]) ?_ rfl h;have e : (results fn tmps).run P W = ((asAddr (tmps.getD p undef)).run P W).andThen fun a w₁=>((loadVar ty a).run P w₁).andThen fun v w₂=>.ok (.tuple #[tmps.getD q undef,v,tmps.getD r undef,tmps.getD s undef]) w₂:=by
  simp only [results,hres];simp [Sem.run_bind,Result.andThen]
 rw [e,hp];simp [asAddr,run_loadVar_row W g t ty cs (0,0) d b.bx hu hty hi]
end Go.Proofs.Ytooageeehallbaa.Scr
namespace Go.Proofs.Ytooageeehallbaa.QRunsCut
open Go.RowKit Go.Proofs.YtooageeehallbaaW.PrintWords Go.Proofs.YtooageeehallbaaW.PrintLast Go.Proofs.YtooageeehallbaaW.PrintMore Scr
set_option linter.unusedSimpArgs false
set_option linter.unusedVariables false
/-- A number of the bytes from a place on. -/
def runs_run.st (k : Nat) (l0 : List Int) (a : Int) : Option (Int × Int × Int):=if 0 ≤ a∧a ≤ (l0.length : Int) then leb_Read.f k (l0.drop a.toNat) else none
/-- What run tells: the number of cells,the cell,its bytes,the fault. -/
def runs_run.f (k : Nat) (l0 : List Int) : Option (Int × Int × Int × Int × Int × Int):=(runs_run.st k l0 0).bind fun t0=>if t0.2.2 = 0 then ((runs_run.st k l0 (wrap64 t0.2.1)).bind fun t1=>if t1.2.2 = 0 then ((runs_run.st k l0 (wrap64 (wrap64 t0.2.1 + t1.2.1))).bind fun t2=>if t2.2.2 = 0 then (if t1.1 > 1114111 then some (0,0,0,0,0,21) else if t2.1 ≥ 16384 then some (0,0,0,0,0,21) else some (t0.1,wrap32 t1.1,IntKind.u16.wrap (t2.1 / 4),IntKind.u8.wrap (Go.bits .and .u64 t2.1 3),wrap64 (wrap64 (wrap64 t0.2.1 + t1.2.1) + t2.2.1),0)) else some (0,0,0,0,0,t2.2.2)) else some (0,0,0,0,0,t1.2.2)) else some (0,0,0,0,0,t0.2.2)
theorem runs_run.st_mono (k : Nat) (l0 : List Int) (a : Int) : LeO (runs_run.st k l0 a) (runs_run.st (k + 1) l0 a):=by
 unfold runs_run.st;exact LeO.ite (leb_Read.mono _ _) (LeO.none _)
theorem runs_run.mono : ∀ a0 k,LeO (runs_run.f k a0) (runs_run.f (k + 1) a0):=by
 intro a0 k;unfold runs_run.f;repeat' first
 |exact runs_run.st_mono _ _ _
 |exact LeO.refl _
 |exact LeO.none _
 |refine LeO.ite ?_ ?_
 |refine LeO.bind ?_ (fun _=>?_)
theorem run_st {k : Nat} {l0 : List Int} {a : Int} {t : Int × Int × Int} (h : runs_run.st k l0 a = some t) : 0 ≤ a∧a ≤ (l0.length : Int)∧leb_Read.f k (l0.drop a.toNat) = some t:=by
 unfold runs_run.st at h;split at h
 case isTrue hh=>exact ⟨hh.1,hh.2,h⟩
 case isFalse=>cases h
attribute [local go_sem] max2_int min2_int max_two min_two max_three min_three max_four min_four
set_option maxHeartbeats 4000000 in
set_option maxRecDepth 100000 in
theorem runs_run.calls (k : Nat) (A0 : Option Addr) (c0 : Nat) (l0 : List Int) (r1 r2 r3 r4 r5 r6 : Int) (w : World) (hr0 : Kd.C (Kd.int .u8) w A0 l0.length l0) (hc0 : l0.length ≤ c0) (h : runs_run.f k l0 = some (r1,r2,r3,r4,r5,r6)) :
 Calls Try.prog 49 #[.slice A0 l0.length c0] w fun e w'=>e = .returned (.tuple #[.int .u64 r1,.agg #[.int .i32 r2,.int .u16 r3,.int .u8 r4],.int .i64 r5,.int .i64 r6])∧Below w.heap.size w w':=by
 have hu35:=Try.underlying35;have HR0:=zA hr0;have HC0:=zA hc0;clear hr0 hc0;have HB:=zA (zE w.heap.size w);have H:=h;clear h;unfold runs_run.f at H;obtain ⟨i5,hi5,_,hsz5,_⟩:=info_parts info5;obtain ⟨⟨n0,s0,e0⟩,h0,H⟩:=Option.bind_eq_some_iff.mp H;replace H : (if e0 = 0 then _ else _) = some _:=H;obtain ⟨p0,q0,h0⟩:=run_st h0;obtain ⟨CA0,hcut0,hA0,hC0⟩:=print_drop_of (P:=Try.prog) (Value.int .u8) 0 22 5 .i64 Try.underlying22 hi5 hsz5 A0 c0 l0 0 p0 q0 HC0.out;have HR0_:=zA (Kd.C_of_reads (h1:=fun _=>rfl) (hA0 _ (Kd.reads_of_C HR0.out)));have HC0_:=zA hC0;have HA0:=zA h0;clear hA0 hC0 h0 p0 q0;go_enter Try.func49,Try.ntmps49
 go_wp2_with (first|((with_reducible refine zG (N:=3) rfl ?_);refine bx_alloc (t:=35) (n:=w.heap.size) (cs:=#[.int .i32 0,.int .u16 0,.int .u8 0]) rfl rfl rfl (by kernel_rfl) HB.out.size ?_;intro g3 w3 hN hg bx;replace HB:=zA (zL HB.out HB.out.size hg);have BX3:=zA bx;clear hN hg bx)|((with_reducible refine zG (N:=6) rfl ?_);refine bx_alloc (t:=76) (n:=w.heap.size) (cs:=#[.int .u64 0,.int .u64 0,.int .u64 0]) rfl rfl rfl (by kernel_rfl) HB.out.size ?_;intro g6 w6 hN hg bx;have NE:=zA (show g3 ≠ g6 from by have:=BX3.out.lt;omega);replace HB:=zA (zL HB.out HB.out.size hg);replace BX3:=zA (zO BX3.out hg);have BX6:=zA bx;clear hN hg bx));refine wp_loop_rounds 4 ?_;rw [rounds_succ];by_cases c0e : e0 = 0
 ·rw [if_pos c0e] at H;obtain ⟨⟨n1,s1,e1⟩,h1,H⟩:=Option.bind_eq_some_iff.mp H;replace H : (if e1 = 0 then _ else _) = some _:=H;have c0b : (e0 != 0) = false:=bne_eq_false_iff_eq.mpr c0e;go_wp2_with (first|((with_reducible refine zG (N:=19) rfl ?_);refine goesL_ (some 19) rfl rfl Try.func59 (by kernel_rfl) rfl #[.slice CA0 (l0.drop (0 : Int).toNat).length (c0 - (0 : Int).toNat)] rfl (by (try simp only [zS,zT,zU]);(rw [show (l0.drop (0 : Int).toNat).length = (l0.length - (0 : Int).toNat) from List.length_drop] <;> rfl)) ?_;refine (leb_Read.calls k _ _ _ _ _ _ _ (Kd.C_below HR0_.out HB.out) HC0_.out HA0.out).mono ?_;rintro e w19 ⟨rfl,hd⟩;replace HB:=zA (HB.out.trans (below_drawn hd));replace BX3:=zA (zM BX3.out (below_drawn hd));replace BX6:=zA (zM BX6.out (below_drawn hd));clear hd;refine ⟨_,rfl,?_⟩)|((with_reducible refine zH (t:=69) (p:=32) rfl ?_);refine bx_put (ty:=69) BX6.out rfl rfl rfl rfl (hu:=rfl) (hs:=rfl) rfl rfl rfl one69 ?_;intro w_32 hg bx;replace HB:=zA (zK HB.out BX6.out hg);replace BX3:=zA (zN BX3.out hg NE.out);clear BX6;have BX6:=zA bx;clear bx hg));replace h1 : runs_run.st k l0 (wrap64 s0) = _:=h1;generalize wrap64 s0 = a1 at *;obtain ⟨p1,q1,h1⟩:=run_st h1;obtain ⟨CA1,hcut1,hA1,hC1⟩:=print_drop_of (P:=Try.prog) (Value.int .u8) 0 22 5 .i64 Try.underlying22 hi5 hsz5 A0 c0 l0 a1 p1 q1 HC0.out;have HR1_:=zA (Kd.C_of_reads (h1:=fun _=>rfl) (hA1 _ (Kd.reads_of_C HR0.out)));have HC1_:=zA hC1;have HA1:=zA h1;clear hA1 hC1 h1 p1 q1;rw [rounds_succ];by_cases c1e : e1 = 0
  ·rw [if_pos c1e] at H;obtain ⟨⟨n2,s2,e2⟩,h2,H⟩:=Option.bind_eq_some_iff.mp H;replace H : (if e2 = 0 then _ else _) = some _:=H;have c1b : (e1 != 0) = false:=bne_eq_false_iff_eq.mpr c1e;go_wp2_with (first|((with_reducible refine zG (N:=19) rfl ?_);refine goesL_ (some 19) rfl rfl Try.func59 (by kernel_rfl) rfl #[.slice CA1 (l0.drop (a1 : Int).toNat).length (c0 - (a1 : Int).toNat)] rfl (by (try simp only [zS,zT,zU]);(rw [show (l0.drop (a1 : Int).toNat).length = (l0.length - (a1 : Int).toNat) from List.length_drop] <;> rfl)) ?_;refine (leb_Read.calls k _ _ _ _ _ _ _ (Kd.C_below HR1_.out HB.out) HC1_.out HA1.out).mono ?_;rintro e w19 ⟨rfl,hd⟩;replace HB:=zA (HB.out.trans (below_drawn hd));replace BX3:=zA (zM BX3.out (below_drawn hd));replace BX6:=zA (zM BX6.out (below_drawn hd));clear hd;refine ⟨_,rfl,?_⟩)|((with_reducible refine zH (t:=69) (p:=32) rfl ?_);refine bx_put (ty:=69) BX6.out rfl rfl rfl rfl (hu:=rfl) (hs:=rfl) rfl rfl rfl one69 ?_;intro w_32 hg bx;replace HB:=zA (zK HB.out BX6.out hg);replace BX3:=zA (zN BX3.out hg NE.out);clear BX6;have BX6:=zA bx;clear bx hg));replace h2 : runs_run.st k l0 (wrap64 (a1 + s1)) = _:=h2;generalize wrap64 (a1 + s1) = a2 at *;obtain ⟨p2,q2,h2⟩:=run_st h2;obtain ⟨CA2,hcut2,hA2,hC2⟩:=print_drop_of (P:=Try.prog) (Value.int .u8) 0 22 5 .i64 Try.underlying22 hi5 hsz5 A0 c0 l0 a2 p2 q2 HC0.out;have HR2_:=zA (Kd.C_of_reads (h1:=fun _=>rfl) (hA2 _ (Kd.reads_of_C HR0.out)));have HC2_:=zA hC2;have HA2:=zA h2;clear hA2 hC2 h2 p2 q2;rw [rounds_succ];by_cases c2e : e2 = 0
   ·rw [if_pos c2e] at H;have c2b : (e2 != 0) = false:=bne_eq_false_iff_eq.mpr c2e;go_wp2_with (first|((with_reducible refine zG (N:=19) rfl ?_);refine goesL_ (some 19) rfl rfl Try.func59 (by kernel_rfl) rfl #[.slice CA2 (l0.drop (a2 : Int).toNat).length (c0 - (a2 : Int).toNat)] rfl (by (try simp only [zS,zT,zU]);(rw [show (l0.drop (a2 : Int).toNat).length = (l0.length - (a2 : Int).toNat) from List.length_drop] <;> rfl)) ?_;refine (leb_Read.calls k _ _ _ _ _ _ _ (Kd.C_below HR2_.out HB.out) HC2_.out HA2.out).mono ?_;rintro e w19 ⟨rfl,hd⟩;replace HB:=zA (HB.out.trans (below_drawn hd));replace BX3:=zA (zM BX3.out (below_drawn hd));replace BX6:=zA (zM BX6.out (below_drawn hd));clear hd;refine ⟨_,rfl,?_⟩)|((with_reducible refine zH (t:=69) (p:=32) rfl ?_);refine bx_put (ty:=69) BX6.out rfl rfl rfl rfl (hu:=rfl) (hs:=rfl) rfl rfl rfl one69 ?_;intro w_32 hg bx;replace HB:=zA (zK HB.out BX6.out hg);replace BX3:=zA (zN BX3.out hg NE.out);clear BX6;have BX6:=zA bx;clear bx hg));rw [rounds_succ];replace H : (if n1 > 1114111 then _ else if n2 ≥ 16384 then _ else _) = some _:=H;by_cases c3 : n1 > 1114111
    ·rw [if_pos c3] at H;cases H;have c3b:=zC c3;go_wp2_with (first|((with_reducible refine zH (t:=35) (p:=3) rfl ?_);refine bx_store BX3.out rfl rfl rfl rfl (cs':=#[.int .i32 _,.int .u16 _,.int .u8 _]) rfl (by kernel_rfl) rfl (by simp [Value.oneCell']) ?_;intro w_3 hg bx;replace HB:=zA (zK HB.out BX3.out hg);replace BX6:=zA (zN BX6.out hg (Ne.symm NE.out));clear BX3;have BX3:=zA bx;clear bx hg)|((with_reducible refine zG (N:=35) rfl ?_);(try (refine gate_guard (by rfl) ?_;dsimp only));refine bx_get BX6.out rfl rfl rfl rfl Try.underlying69 rfl rfl ?_));refine bx_ret4 rfl BX3.out rfl Try.underlying35 rfl (by kernel_rfl) ?_;exact ⟨rfl,HB.out⟩
    ·rw [if_neg c3] at H;have c3b:=zD c3;by_cases c4 : n2 ≥ 16384
     ·rw [if_pos c4] at H;cases H;have c4b:=zC c4;go_wp2_with (first|((with_reducible refine zH (t:=35) (p:=3) rfl ?_);refine bx_store BX3.out rfl rfl rfl rfl (cs':=#[.int .i32 _,.int .u16 _,.int .u8 _]) rfl (by kernel_rfl) rfl (by simp [Value.oneCell']) ?_;intro w_3 hg bx;replace HB:=zA (zK HB.out BX3.out hg);replace BX6:=zA (zN BX6.out hg (Ne.symm NE.out));clear BX3;have BX3:=zA bx;clear bx hg)|((with_reducible refine zG (N:=35) rfl ?_);(try (refine gate_guard (by rfl) ?_;dsimp only));refine bx_get BX6.out rfl rfl rfl rfl Try.underlying69 rfl rfl ?_)|((with_reducible refine zG (N:=39) rfl ?_);(try (refine gate_guard (by rfl) ?_;dsimp only));refine bx_get BX6.out rfl rfl rfl rfl Try.underlying69 rfl rfl ?_));refine bx_ret4 rfl BX3.out rfl Try.underlying35 rfl (by kernel_rfl) ?_;exact ⟨rfl,HB.out⟩
     ·rw [if_neg c4] at H;have c4b:=zD c4;go_wp2_with (first|((with_reducible refine zG (N:=35) rfl ?_);(try (refine gate_guard (by rfl) ?_;dsimp only));refine bx_get BX6.out rfl rfl rfl rfl Try.underlying69 rfl rfl ?_)|((with_reducible refine zG (N:=39) rfl ?_);(try (refine gate_guard (by rfl) ?_;dsimp only));refine bx_get BX6.out rfl rfl rfl rfl Try.underlying69 rfl rfl ?_));have hb : Below w_32.heap.size w_32 w_32.drew:=(zE _ _).drew;replace BX3:=zA (zM BX3.out hb);replace BX6:=zA (zM BX6.out hb);replace HB:=zA (zJ HB.out HB.out.size hb);clear hb;refine start_ (n:=19) (S:=fun w'=>w'.heap[g6]? = some (.cells (#[.int .u64 n0,.int .u64 n1,.int .u64 n2]) 76 (0,0))) (ds:=[]) #[false,false,false,false,false,false,false,false,false,false,false,false,false,false,false,false,false,false,false] (by kernel_rfl) rfl rfl BX6.out.bx (fun hHeld=>?_);generalize World.drew w_32 = wD at HB BX3 BX6 hHeld ⊢;refine pure_ (i:=0) (N:=(some 43)) (v:=?_) (a':=?_) #[true,false,false,false,false,false,false,false,false,false,false,false,false,false,false,false,false,false,false] rfl rfl (by kernel_rfl) (fun _ _ _ h=>h) (Or.inl ⟨by rfl,?_⟩) ?_ ?_;rotate_left
      ·intro w';go_simp;(with_reducible rfl)
      rotate_left
      ·simp only [Act.put,zP,zQ,zR,i64_w,i32_w];rfl
      refine take_ (i:=1) (N:=(some 44)) (v:=(.int .u64 n0)) (a':=?_) #[true,true,false,false,false,false,false,false,false,false,false,false,false,false,false,false,false,false,false] rfl rfl (by kernel_rfl) (fun _ _ _ h=>h) (Or.inl ⟨by rfl,?_⟩) hHeld ?_ ?_
      ·rintro w' hs0_
       exact bx_yields hs0_ rfl rfl Try.underlying69 rfl rfl
      rotate_left
      ·simp only [Act.put,zP,zQ,zR,i64_w,i32_w];rfl
      refine pure_ (i:=2) (N:=(some 45)) (v:=?_) (a':=?_) #[true,true,true,false,false,false,false,false,false,false,false,false,false,false,false,false,false,false,false] rfl rfl (by kernel_rfl) (fun _ _ _ h=>h) (Or.inl ⟨by rfl,?_⟩) ?_ ?_;rotate_left
      ·intro w';go_simp;(with_reducible rfl)
      rotate_left
      ·simp only [Act.put,zP,zQ,zR,i64_w,i32_w];rfl
      refine take_ (i:=3) (N:=(some 46)) (v:=(.int .u64 n1)) (a':=?_) #[true,true,true,true,false,false,false,false,false,false,false,false,false,false,false,false,false,false,false] rfl rfl (by kernel_rfl) (fun _ _ _ h=>h) (Or.inl ⟨by rfl,?_⟩) hHeld ?_ ?_
      ·rintro w' hs0_
       exact bx_yields hs0_ rfl rfl Try.underlying69 rfl rfl
      rotate_left
      ·simp only [Act.put,zP,zQ,zR,i64_w,i32_w];rfl
      refine pure_ (i:=4) (N:=(some 47)) (v:=?_) (a':=?_) #[true,true,true,true,true,false,false,false,false,false,false,false,false,false,false,false,false,false,false] rfl rfl (by kernel_rfl) (fun _ _ _ h=>h) (Or.inl ⟨by rfl,?_⟩) ?_ ?_;rotate_left
      ·intro w';go_simp;(with_reducible rfl)
      rotate_left
      ·simp only [Act.put,zP,zQ,zR,i64_w,i32_w];rfl
      refine pure_ (i:=5) (N:=(some 48)) (v:=?_) (a':=?_) #[true,true,true,true,true,true,false,false,false,false,false,false,false,false,false,false,false,false,false] rfl rfl (by kernel_rfl) (fun _ _ _ h=>h) (Or.inl ⟨by rfl,?_⟩) ?_ ?_;rotate_left
      ·intro w';go_simp;(with_reducible rfl)
      rotate_left
      ·simp only [Act.put,zP,zQ,zR,i64_w,i32_w];rfl
      refine take_ (i:=6) (N:=(some 49)) (v:=(.int .u64 n2)) (a':=?_) #[true,true,true,true,true,true,true,false,false,false,false,false,false,false,false,false,false,false,false] rfl rfl (by kernel_rfl) (fun _ _ _ h=>h) (Or.inl ⟨by rfl,?_⟩) hHeld ?_ ?_
      ·rintro w' hs0_
       exact bx_yields hs0_ rfl rfl Try.underlying69 rfl rfl
      rotate_left
      ·simp only [Act.put,zP,zQ,zR,i64_w,i32_w];rfl
      refine pure_ (i:=7) (N:=(some 50)) (v:=?_) (a':=?_) #[true,true,true,true,true,true,true,true,false,false,false,false,false,false,false,false,false,false,false] rfl rfl (by kernel_rfl) (fun _ _ _ h=>h) (Or.inl ⟨by rfl,?_⟩) ?_ ?_;rotate_left
      ·intro w';go_simp;(with_reducible rfl)
      rotate_left
      ·simp only [Act.put,zP,zQ,zR,i64_w,i32_w];rfl
      refine pure_ (i:=8) (N:=(some 51)) (v:=?_) (a':=?_) #[true,true,true,true,true,true,true,true,true,false,false,false,false,false,false,false,false,false,false] rfl rfl (by kernel_rfl) (fun _ _ _ h=>h) (Or.inl ⟨by rfl,?_⟩) ?_ ?_;rotate_left
      ·intro w';go_simp;(with_reducible rfl)
      rotate_left
      ·simp only [Act.put,zP,zQ,zR,i64_w,i32_w];rfl
      refine pure_ (i:=9) (N:=(some 52)) (v:=?_) (a':=?_) #[true,true,true,true,true,true,true,true,true,true,false,false,false,false,false,false,false,false,false] rfl rfl (by kernel_rfl) (fun _ _ _ h=>h) (Or.inl ⟨by rfl,?_⟩) ?_ ?_;rotate_left
      ·intro w';go_simp;(with_reducible rfl)
      rotate_left
      ·simp only [Act.put,zP,zQ,zR,i64_w,i32_w];rfl
      refine take_ (i:=10) (N:=(some 53)) (v:=(.int .u64 n2)) (a':=?_) #[true,true,true,true,true,true,true,true,true,true,true,false,false,false,false,false,false,false,false] rfl rfl (by kernel_rfl) (fun _ _ _ h=>h) (Or.inl ⟨by rfl,?_⟩) hHeld ?_ ?_
      ·rintro w' hs0_
       exact bx_yields hs0_ rfl rfl Try.underlying69 rfl rfl
      rotate_left
      ·simp only [Act.put,zP,zQ,zR,i64_w,i32_w];rfl
      refine pure_ (i:=11) (N:=(some 54)) (v:=?_) (a':=?_) #[true,true,true,true,true,true,true,true,true,true,true,true,false,false,false,false,false,false,false] rfl rfl (by kernel_rfl) (fun _ _ _ h=>h) (Or.inl ⟨by rfl,?_⟩) ?_ ?_;rotate_left
      ·intro w';go_simp;(with_reducible rfl)
      rotate_left
      ·simp only [Act.put,zP,zQ,zR,i64_w,i32_w];rfl
      refine pure_ (i:=12) (N:=(some 55)) (v:=?_) (a':=?_) #[true,true,true,true,true,true,true,true,true,true,true,true,true,false,false,false,false,false,false] rfl rfl (by kernel_rfl) (fun _ _ _ h=>h) (Or.inl ⟨by rfl,?_⟩) ?_ ?_;rotate_left
      ·intro w';go_simp;(with_reducible rfl)
      rotate_left
      ·simp only [Act.put,zP,zQ,zR,i64_w,i32_w];rfl
      refine pure_ (i:=13) (N:=(some 56)) (v:=?_) (a':=?_) #[true,true,true,true,true,true,true,true,true,true,true,true,true,true,false,false,false,false,false] rfl rfl (by kernel_rfl) (fun _ _ _ h=>h) (Or.inl ⟨by rfl,?_⟩) ?_ ?_;rotate_left
      ·intro w';go_simp;(with_reducible rfl)
      rotate_left
      ·simp only [Act.put,zP,zQ,zR,i64_w,i32_w];rfl
      refine pure_ (i:=14) (N:=(some 57)) (v:=?_) (a':=?_) #[true,true,true,true,true,true,true,true,true,true,true,true,true,true,true,false,false,false,false] rfl rfl (by kernel_rfl) (fun _ _ _ h=>h) (Or.inl ⟨by rfl,?_⟩) ?_ ?_;rotate_left
      ·intro w';go_simp;(with_reducible rfl)
      rotate_left
      ·simp only [Act.put,zP,zQ,zR,i64_w,i32_w];rfl
      refine pure_ (i:=15) (N:=(some 2)) (v:=?_) (a':=?_) #[true,true,true,true,true,true,true,true,true,true,true,true,true,true,true,true,false,false,false] rfl rfl (by kernel_rfl) (fun _ _ _ h=>h) (Or.inl ⟨by rfl,?_⟩) ?_ ?_;rotate_left
      ·intro w';go_simp;(with_reducible rfl)
      rotate_left
      ·simp only [Act.put,zP,zQ,zR,i64_w,i32_w];rfl
      refine one_ (i:=16) (N:=none) #[true,true,true,true,true,true,true,true,true,true,true,true,true,true,true,true,true,false,false] rfl rfl (by kernel_rfl) (by decide) (fun K hK=>?_);refine bx_store_if BX3.out (by rfl) rfl rfl rfl (cs':=#[.int .i32 _,.int .u16 _,.int .u8 _]) rfl (by kernel_rfl) rfl (by simp [Value.oneCell']) ?_;intro wb hg bx;replace HB:=zA (zK HB.out BX3.out hg);replace BX6:=zA (zN BX6.out hg (Ne.symm NE.out));clear BX3;have BX3:=zA bx;clear bx hg;refine hK.out _ _ BX6.out.bx (fun hHeld=>?_);clear hK K;refine pure_ (i:=17) (N:=(some 4)) (v:=?_) (a':=?_) #[true,true,true,true,true,true,true,true,true,true,true,true,true,true,true,true,true,true,false] rfl rfl (by kernel_rfl) (fun _ _ _ h=>h) (Or.inl ⟨by rfl,?_⟩) ?_ ?_;rotate_left
      ·intro w';go_simp;(with_reducible rfl)
      rotate_left
      ·simp only [Act.put,zP,zQ,zR,i64_w,i32_w];rfl
      refine pure_ (i:=18) (N:=(some 5)) (v:=?_) (a':=?_) #[true,true,true,true,true,true,true,true,true,true,true,true,true,true,true,true,true,true,true] rfl rfl (by kernel_rfl) (fun _ _ _ h=>h) (Or.inl ⟨by rfl,?_⟩) ?_ ?_;rotate_left
      ·intro w';go_simp;(with_reducible rfl)
      rotate_left
      ·simp only [Act.put,zP,zQ,zR,i64_w,i32_w];rfl
      refine done_ (by kernel_rfl) ?_;go_wp2_with (fail);cases H;refine bx_ret4 rfl BX3.out rfl Try.underlying35 rfl (by kernel_rfl) ?_;exact ⟨rfl,HB.out⟩
   ·rw [if_neg c2e] at H;cases H;have c2b:=bne_iff_ne.mpr c2e;go_wp2_with (first|((with_reducible refine zG (N:=19) rfl ?_);refine goesL_ (some 19) rfl rfl Try.func59 (by kernel_rfl) rfl #[.slice CA2 (l0.drop (a2 : Int).toNat).length (c0 - (a2 : Int).toNat)] rfl (by (try simp only [zS,zT,zU]);(rw [show (l0.drop (a2 : Int).toNat).length = (l0.length - (a2 : Int).toNat) from List.length_drop] <;> rfl)) ?_;refine (leb_Read.calls k _ _ _ _ _ _ _ (Kd.C_below HR2_.out HB.out) HC2_.out HA2.out).mono ?_;rintro e w19 ⟨rfl,hd⟩;replace HB:=zA (HB.out.trans (below_drawn hd));replace BX3:=zA (zM BX3.out (below_drawn hd));replace BX6:=zA (zM BX6.out (below_drawn hd));clear hd;refine ⟨_,rfl,?_⟩)|((with_reducible refine zH (t:=35) (p:=3) rfl ?_);refine bx_store BX3.out rfl rfl rfl rfl (cs':=#[.int .i32 _,.int .u16 _,.int .u8 _]) rfl (by kernel_rfl) rfl (by simp [Value.oneCell']) ?_;intro w_3 hg bx;replace HB:=zA (zK HB.out BX3.out hg);replace BX6:=zA (zN BX6.out hg (Ne.symm NE.out));clear BX3;have BX3:=zA bx;clear bx hg));refine bx_ret4 rfl BX3.out rfl Try.underlying35 rfl (by kernel_rfl) ?_;exact ⟨rfl,HB.out⟩
  ·rw [if_neg c1e] at H;cases H;have c1b:=bne_iff_ne.mpr c1e;go_wp2_with (first|((with_reducible refine zG (N:=19) rfl ?_);refine goesL_ (some 19) rfl rfl Try.func59 (by kernel_rfl) rfl #[.slice CA1 (l0.drop (a1 : Int).toNat).length (c0 - (a1 : Int).toNat)] rfl (by (try simp only [zS,zT,zU]);(rw [show (l0.drop (a1 : Int).toNat).length = (l0.length - (a1 : Int).toNat) from List.length_drop] <;> rfl)) ?_;refine (leb_Read.calls k _ _ _ _ _ _ _ (Kd.C_below HR1_.out HB.out) HC1_.out HA1.out).mono ?_;rintro e w19 ⟨rfl,hd⟩;replace HB:=zA (HB.out.trans (below_drawn hd));replace BX3:=zA (zM BX3.out (below_drawn hd));replace BX6:=zA (zM BX6.out (below_drawn hd));clear hd;refine ⟨_,rfl,?_⟩)|((with_reducible refine zH (t:=35) (p:=3) rfl ?_);refine bx_store BX3.out rfl rfl rfl rfl (cs':=#[.int .i32 _,.int .u16 _,.int .u8 _]) rfl (by kernel_rfl) rfl (by simp [Value.oneCell']) ?_;intro w_3 hg bx;replace HB:=zA (zK HB.out BX3.out hg);replace BX6:=zA (zN BX6.out hg (Ne.symm NE.out));clear BX3;have BX3:=zA bx;clear bx hg));refine bx_ret4 rfl BX3.out rfl Try.underlying35 rfl (by kernel_rfl) ?_;exact ⟨rfl,HB.out⟩
 ·rw [if_neg c0e] at H;cases H;have c0b:=bne_iff_ne.mpr c0e;go_wp2_with (first|((with_reducible refine zG (N:=19) rfl ?_);refine goesL_ (some 19) rfl rfl Try.func59 (by kernel_rfl) rfl #[.slice CA0 (l0.drop (0 : Int).toNat).length (c0 - (0 : Int).toNat)] rfl (by (try simp only [zS,zT,zU]);(rw [show (l0.drop (0 : Int).toNat).length = (l0.length - (0 : Int).toNat) from List.length_drop] <;> rfl)) ?_;refine (leb_Read.calls k _ _ _ _ _ _ _ (Kd.C_below HR0_.out HB.out) HC0_.out HA0.out).mono ?_;rintro e w19 ⟨rfl,hd⟩;replace HB:=zA (HB.out.trans (below_drawn hd));replace BX3:=zA (zM BX3.out (below_drawn hd));replace BX6:=zA (zM BX6.out (below_drawn hd));clear hd;refine ⟨_,rfl,?_⟩)|((with_reducible refine zH (t:=35) (p:=3) rfl ?_);refine bx_store BX3.out rfl rfl rfl rfl (cs':=#[.int .i32 _,.int .u16 _,.int .u8 _]) rfl (by kernel_rfl) rfl (by simp [Value.oneCell']) ?_;intro w_3 hg bx;replace HB:=zA (zK HB.out BX3.out hg);replace BX6:=zA (zN BX6.out hg (Ne.symm NE.out));clear BX3;have BX3:=zA bx;clear bx hg));refine bx_ret4 rfl BX3.out rfl Try.underlying35 rfl (by kernel_rfl) ?_;exact ⟨rfl,HB.out⟩
end Go.Proofs.Ytooageeehallbaa.QRunsCut
