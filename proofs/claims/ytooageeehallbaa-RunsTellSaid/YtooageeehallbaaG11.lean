/- Parts of the claim's proof, merged; no condition beyond what each theorem states. -/
import Derived.Test.YtooageeehallbaaG10
import Derived.Test.YtooageeehallbaaG7
import Derived.Test.YtooageeehallbaaG8
import Derived.Test.YtooageeehallbaaG5
import Derived.Test.YtooageeehallbaaG1
import Derived.Laws.IdiomCopy
import Derived.Laws.Slices
import Derived.Laws.Cover3
import Derived.Laws.ResultCell
namespace Go.Proofs.Ytooageeehallbaa.Scr
open Go.RowKit Go.Proofs.YtooageeehallbaaW.PrintWords Go.Proofs.YtooageeehallbaaW.PrintLast Go.Proofs.YtooageeehallbaaW.PrintMore Go.Proofs.Ytooageeehallbaa.QRunsCut
attribute [local go_sem] max2_int min2_int max_two min_two max_three min_three max_four min_four 
set_option linter.unusedVariables false
set_option linter.unusedSimpArgs false
set_option maxHeartbeats 4000000 in
set_option maxRecDepth 100000 in
theorem seat_inv {ok : Nat → Prop} (r c : Int) (hr : 0 ≤ r∧r ≤ 255) (hc : 0 ≤ c∧c ≤ 255) (bl : Sl) (w : World) (hl : Row (Kd.int .u8) bl (fun l=>Bytes8 l∧l.length ≤ 1000) w ok) :
 Calls Try.prog 11 #[.int .u8 r,.int .u8 c,.slice bl.A bl.n bl.c] w (fun e w'=>∃ s',e = .returned (.agg (Scr.cs s'))∧Inv (r % 6 + 1) (c % 9 + 1) s' w' (fun k=>ok k∨w.heap.size ≤ k)∧Below w.heap.size w w'):=by
 have HB:=zA (zE w.heap.size w);have HL:=zA (mvRow.enter hl (n:=w.heap.size) rfl);clear hl;have hsm : Aside0 (Small (r % 6 + 1) (c % 9 + 1)):=⟨⟨by omega,by omega,by omega,by omega⟩⟩;have e1 : wrap64 (wrap64 (Int.tmod r 6) + 1) = r % 6 + 1:=by
  rw [Int.tmod_eq_emod_of_nonneg hr.1];unfold wrap64;omega
 have e2 : wrap64 (wrap64 (Int.tmod c 9) + 1) = c % 9 + 1:=by
  rw [Int.tmod_eq_emod_of_nonneg hc.1];unfold wrap64;omega
 have hsm2 : Aside0 (Small (wrap64 (wrap64 (Int.tmod r 6) + 1)) (wrap64 (wrap64 (Int.tmod c 9) + 1))):=⟨by rw [e1,e2];exact hsm.out⟩;replace hr:=zA hr;replace hc:=zA hc;go_enter Try.func11,Try.ntmps11
 go_wp2_with (first|((with_reducible refine zG (N:=6) rfl ?_);refine bx_alloc (t:=31) (n:=w.heap.size) (cs:=Scr.zero.cs) rfl rfl rfl Scr.infoz HB.out.size ?_;intro g6 w6 hN hg bx;replace HB:=zA (zL HB.out HB.out.size hg);replace HL:=zA (mvRow.fresh HL.out hN hg);have BX6:=zA bx;clear hN hg bx)|((with_reducible refine zG (N:=18) rfl ?_);refine goesL_ (some 18) rfl rfl Try.func36 (by kernel_rfl) rfl _ rfl rfl ?_;(try simp only [zS,zT,zU]);refine Calls.mono (new_inv _ _ _ hsm2.out) ?_;rintro e w18 ⟨s_,rfl,NI0,hb⟩;rw [e1,e2] at NI0;have HI:=zA (mvInv.new (ok:=ok) (n:=w.heap.size) (gs:=[g6]) NI0 HB.out.size (by simp only [zW,List.not_mem_nil,or_false];rintro g_ rfl;exact BX6.out.lt));clear NI0;replace BX6:=zA (zM BX6.out hb);replace HL:=zA (mvRow.call HL.out hb);replace HB:=zA (zJ HB.out HB.out.size hb);clear hb;refine ⟨_,rfl,?_⟩)|((with_reducible refine zG (N:=7) rfl ?_);refine bx_alloc (t:=31) (n:=w.heap.size) (cs:=Scr.zero.cs) rfl rfl rfl Scr.infoz HB.out.size ?_;intro g7 w7 hN hg bx;replace HB:=zA (zL HB.out HB.out.size hg);have NE6_7:=zA (show g6 ≠ g7 from by have:=BX6.out.lt;omega);have NE7_6:=zA (Ne.symm NE6_7.out);replace BX6:=zA (zO BX6.out hg);replace HL:=zA (mvRow.fresh HL.out hN hg);(try replace HI:=zA (mvInv.fresh HI.out hN hg));have BX7:=zA bx;clear hN hg bx)|((with_reducible refine zH (t:=31) (p:=7) rfl ?_);refine bx_store BX7.out rfl rfl rfl rfl (cs':=Scr.cs _) rfl (Scr.sizes _) rfl (Scr.all _) ?_;intro w_19 hg bx;replace HB:=zA (zK HB.out BX7.out hg);replace BX6:=zA (zN BX6.out hg NE6_7.out);replace HL:=zA (mvRow.grown HL.out hg (by simp));(try replace HI:=zA (mvInv.grown HI.out hg (by simp)));clear BX7;have BX7:=zA bx;clear bx hg));have hb : Below w_19.heap.size w_19 w_19.drew:=(zE _ _).drew;replace BX6:=zA (zM BX6.out hb);replace BX7:=zA (zM BX7.out hb);replace HL:=zA (mvRow.call HL.out hb);(try replace HI:=zA (mvInv.call HI.out hb));replace HB:=zA (zJ HB.out HB.out.size hb);clear hb;refine start_ (n:=5) (S:=fun w'=>w'.heap[g7]? = some (.cells s_.cs 31 (0,0))) (ds:=[3,4]) (tk 5 0) (by kernel_rfl) rfl rfl BX7.out.bx (fun hHeld=>?_);generalize World.drew w_19 = wD at HB BX6 BX7 HL HI hHeld ⊢;refine pGo [(1,some 22)] ?_;(refine pA (v:=?_) (a':=?_) rfl rfl (by kernel_rfl) (fun _ _ _ h=>h) (Or.inl ⟨by rfl,?_⟩) ?_ ?_;rotate_left;(· intro w';go_simp;with_reducible rfl);rotate_left;(· simp only [Act.put,zP,zQ,zR,i64_w,i32_w];rfl))
 refine pEnd ?_;refine take_ (i:=0) (N:=(some 21)) (v:=(.agg s_.cs)) (a':=?_) (tk 5 2) rfl rfl (by kernel_rfl) (fun _ _ _ h=>h) (Or.inl ⟨by rfl,?_⟩) hHeld ?_ ?_
 ·rintro w' hs0_
  exact bx_yieldw hs0_ rfl rfl Try.underlying31 rfl (Scr.sizes s_)
 rotate_left
 ·simp only [Act.put,zP,zQ,zR,i64_w,i32_w];rfl
 refine one_ (i:=2) (N:=(some 23)) (tk 5 3) rfl rfl (by kernel_rfl) (by decide) (fun K hK=>?_);refine goes_ Try.func38 (by kernel_rfl) rfl _ (by rfl) rfl rfl rfl ?_;(try simp only [zS,zT,zU]);refine Calls.mono (bytes_call HL.out) ?_;rintro e w23 ⟨q_,rfl,NQ0,hb⟩
 refine ⟨_,rfl,?_⟩;have NQ:=zA (mvRow.new (ok:=ok) (n:=w.heap.size) (gs:=[g7,g6]) NQ0 HB.out.size (by simp only [zW,List.not_mem_nil,or_false];rintro g_ hg_;rcases hg_ with rfl|rfl <;> first|exact BX6.out.lt|exact BX7.out.lt));clear NQ0;replace BX6:=zA (zM BX6.out hb);replace BX7:=zA (zM BX7.out hb);replace HL:=zA (mvRow.call HL.out hb);(try replace HI:=zA (mvInv.call HI.out hb));replace HB:=zA (zJ HB.out HB.out.size hb);clear hb;refine hK.out _ _ BX7.out.bx (fun hHeld=>?_);clear hK K;refine norm_ (a':=?_) ?_ ?_;rotate_left
 ·show Act.put _ (some 23) _ = _
  simp only [Act.put,zP,zQ,zR,i64_w,i32_w];rfl
 refine last_ (i:=3) (N:=(some 24)) (tk 5 4) rfl rfl (by kernel_rfl) (by decide) (fun K hK=>?_);refine goes_ Try.func37 (by kernel_rfl) rfl _ (by rfl) rfl rfl rfl ?_;(try simp only [zS,zT,zU]);refine Calls.mono (feed_inv _ _ _ HI.out NQ.out) ?_;rintro e w24 ⟨s2,rfl,NI0,hb⟩
 refine ⟨_,rfl,?_⟩;have NI:=zA (mvInv.back (ok:=ok) (n:=w.heap.size) (gs:=[g7,g6]) NI0 HB.out.size (by simp only [zW,List.not_mem_nil,or_false];rintro g_ hg_;rcases hg_ with rfl|rfl <;> first|exact BX6.out.lt|exact BX7.out.lt));clear NI0;replace BX6:=zA (zM BX6.out hb);replace BX7:=zA (zM BX7.out hb);replace HL:=zA (mvRow.call HL.out hb);(try replace HI:=zA (mvInv.call HI.out hb));(try replace NQ:=zA (mvRow.call NQ.out hb));replace HB:=zA (zJ HB.out HB.out.size hb);clear hb;refine hK.out _ _ ?_;clear hK K;refine norm_ (a':=?_) ?_ ?_;rotate_left
 ·show Act.put _ (some 24) _ = _
  simp only [Act.put,zP,zQ,zR,i64_w,i32_w];rfl
 refine last_ (i:=4) (N:=none) (tk 5 5) rfl rfl (by kernel_rfl) (by decide) (fun K hK=>?_);refine bx_store_if BX6.out (by rfl) rfl rfl rfl (cs':=Scr.cs s2) rfl (Scr.sizes _) rfl (Scr.all _) ?_;intro w25 hg bx;replace HB:=zA (zK HB.out BX6.out hg);replace BX7:=zA (zN BX7.out hg NE7_6.out);replace HL:=zA (mvRow.grown HL.out hg (by simp));(try replace HI:=zA (mvInv.grown HI.out hg (by simp)));(try replace NQ:=zA (mvRow.grown NQ.out hg (by simp)));(try replace NI:=zA (mvInv.grown NI.out hg (by simp)));clear BX6;have BX6:=zA bx;clear bx hg;refine hK.out _ _ ?_;clear hK K;refine done_ (by kernel_rfl) ?_;go_wp2_with ((refine bx_ret rfl BX6.out rfl Try.underlying31 rfl (Scr.sizes _) ?_));exact ⟨s2,rfl,mvInv.out (n:=w.heap.size) (gs:=[g7,g6]) NI.out,HB.out⟩
end Go.Proofs.Ytooageeehallbaa.Scr
namespace Go.Proofs.Ytooageeehallbaa.Scr
open Go.RowKit Go.Proofs.YtooageeehallbaaW.PrintWords Go.Proofs.YtooageeehallbaaW.PrintLast Go.Proofs.YtooageeehallbaaW.PrintMore Go.Proofs.Ytooageeehallbaa.QRunsCut Go.Proofs.Ytooageeehallbaa.Runs
set_option linter.unusedVariables false
set_option linter.unusedSimpArgs false
theorem Row.pin {α : Type} {d : Kd α} {c : Sl} {P : List α → Prop} {W : World} {ok : Nat → Prop} (h : Row d c P W ok) : ∃ l,P l∧c.n = l.length∧c.n ≤ c.c∧Row d c (fun x=>x = l) W ok:=by
 obtain ⟨l,hp,hv⟩:=h;obtain ⟨h1,h2,_⟩:=Kd.V_reads' hv;exact ⟨l,hp,h1,h2,l,rfl,hv⟩
theorem Row.take {α : Type} {d : Kd α} {v : Sl} {x : List α} {W : World} {ok : Nat → Prop} (h : Row d v (fun y=>y = x) W ok) {j : Nat} (hj : j ≤ x.length) : Row d ⟨v.A,j,v.c⟩ (fun y=>y = x.take j) W ok:=by
 obtain ⟨l,rfl,hv⟩:=h;obtain ⟨h1,h2,_⟩:=Kd.V_reads' hv;have hF:=Kd.V_F hv;rw [h1] at hF;have:=Kd.V_mk (e:=0) (base:=0) (c:=v.c) (by rw [List.length_take];omega) (Kd.F_take hF hj);rw [List.length_take,Nat.min_eq_left hj] at this;exact ⟨_,rfl,this⟩
theorem cut_run {n c : Nat} (A : Option Addr) {j : Int} (h0 : 0 ≤ j) (h1 : j ≤ (n : Int)) (hc : n ≤ c) (W : World) : (Instr.slice 22 (.slice A n c) none (some (.int .i64 j)) none).run Try.prog W = .ok (.slice A j.toNat c) W:=by
 obtain ⟨i5,hi5,_,hsz5,_⟩:=info_parts info5;have:=(print_take_of (P:=Try.prog) (Value.int .u8) 0 22 5 .i64 Try.underlying22 hi5 hsz5 A c (List.replicate n (0 : Int)) j h0 (by rw [List.length_replicate];exact h1) (by rw [List.length_replicate];exact hc)).1 W;rw [List.length_take,List.length_replicate,Nat.min_eq_left (by omega)] at this;exact this
theorem grid_cells {rows cols : Int} {l : List S35} (hs : Small rows cols) (hG : Grid rows cols l) : (∀ c ∈ l,CellOk c)∧1 ≤ l.length∧l.length < 1000000 + 1:=by
 have h1 : 1 * 1 ≤ rows * cols:=Int.mul_le_mul hs.r0 hs.c0 (by decide) (by have:=hs.r0;omega);have h2 : rows * cols ≤ 1000 * 1000:=Int.mul_le_mul hs.r1 hs.c1 (by have:=hs.c0;omega) (by decide);have:=hG.len;exact ⟨hG.ok,by omega,by omega⟩
theorem law_row {bl : Sl} {W : World} {ok : Nat → Prop} (h : Row (Kd.int .u8) bl Bytes8 W ok) (hs : bl.n ≤ 30) : Row (Kd.int .u8) bl (fun l=>Bytes8 l∧l.length ≤ 1000) W ok:=by
 obtain ⟨l,hp,hv⟩:=h;obtain ⟨h1,h2,_⟩:=Kd.V_reads' hv;exact ⟨l,⟨hp,by omega⟩,hv⟩
theorem law_mod {c : Int} {b : Nat} (h : 0 ≤ c) (hb : 0 < b) : 0 ≤ Int.tmod c (b : Int)∧Int.tmod c (b : Int) < (b : Int):=by
 rw [Int.tmod_eq_emod_of_nonneg h];exact ⟨Int.emod_nonneg _ (by omega),Int.emod_lt_of_pos _ (by omega)⟩
end Go.Proofs.Ytooageeehallbaa.Scr
namespace Go.Proofs.Ytooageeehallbaa.Runs
open Go.RowKit Go.Proofs.YtooageeehallbaaW.PrintWords Go.Proofs.YtooageeehallbaaW.PrintLast Go.Proofs.YtooageeehallbaaW.PrintMore Go.Proofs.Ytooageeehallbaa.QRunsCut Go.Proofs.Ytooageeehallbaa.Scr
set_option linter.unusedVariables false
set_option linter.unusedSimpArgs false
theorem same_l0 (x : List S35) (hx : x.length ≤ 1000000) : ∀ d i : Nat,i + d = x.length → repriseref7_SameCells.l0 (d + 1) x x (i : Int) = some true:=by
 intro d;induction d with
|zero=>intro i hi;rw [repriseref7_SameCells.l0,if_neg (by omega)]
|succ d ih =>
  intro i hi;have he : wrap64 ((i : Int) + 1) = ((i + 1 : Nat) : Int):=by rw [w64 _ (by omega) (by omega)];omega
  rw [repriseref7_SameCells.l0,if_pos (by omega),if_pos (by omega),if_pos (by omega),if_neg (by simp),he];exact ih (i + 1) (by omega)
theorem same_ok (x : List S35) (hx : x.length ≤ 1000000) : repriseref7_SameCells.f (x.length + 1) x x = some true:=by
 unfold repriseref7_SameCells.f;rw [if_pos rfl];exact same_l0 x hx x.length 0 (by omega)
theorem same_call {q c : Sl} {l : List S35} {W : World} {ok ok' : Nat → Prop} (hq : Row k35 q (fun x=>x = l) W ok) (hc : Row k35 c (fun x=>x = l) W ok') (hl : l.length ≤ 1000000) :
 Calls Try.prog 15 #[.slice q.A q.n q.c,.slice c.A c.n c.c] W fun e w'=>e = .returned (.bool true)∧Below W.heap.size W w':=by
 obtain ⟨x,rfl,hn,hlc,hC⟩:=Row.reads hq;obtain ⟨y,rfl,hn',hlc',hC'⟩:=Row.reads hc;rw [hn,hn'];refine (repriseref7_SameCells.calls _ q.A q.c y c.A c.c y true W hC hlc hC' hlc' (same_ok y hl)).mono ?_;rintro e w' ⟨rfl,hd⟩
 exact ⟨rfl,hd.below⟩
end Go.Proofs.Ytooageeehallbaa.Runs
namespace Go.Proofs.Ytooageeehallbaa.Scr
open Go.RowKit Go.Proofs.YtooageeehallbaaW.PrintWords Go.Proofs.YtooageeehallbaaW.PrintLast Go.Proofs.YtooageeehallbaaW.PrintMore Go.Proofs.Ytooageeehallbaa.QRunsCut Go.Proofs.Ytooageeehallbaa.Runs
set_option linter.unusedVariables false
set_option linter.unusedSimpArgs false
theorem puts_calls (l : List S35) (ht : ∀ c ∈ l,CellT c) (hl : l.length ≤ 1000000) : ∃ (q : List Int) (er : Int),
 (∀ (A : Option Addr) (c : Nat) (W : World),Rw k35 A c l W → Calls Try.prog 17 #[.slice A l.length c] W fun e w'=>∃ A' c',e = .returned (.tuple #[.slice A' q.length c',.int .i64 er])∧Rw (Kd.int .u8) A' c' q w'∧Below W.heap.size W w') ∧
 (∀ (A : Option Addr) (c : Nat) (W : World),Rw k35 A c l W → Calls Try.prog 18 #[.slice A l.length c] W fun e w'=>∃ A' c',e = .returned (.tuple #[.slice A' q.length c',.int .i64 er])∧Rw (Kd.int .u8) A' c' q w'∧Below W.heap.size W w') ∧
 (∀ x ∈ q,0 ≤ x∧x < 256)∧q.length ≤ 30 * l.length:=by
 obtain ⟨o,ho⟩:=putR_ex l;obtain ⟨k,hk⟩:=puta_ok l ho ht hl;obtain ⟨h1,h2⟩:=putV_ok ho ht hl;exact ⟨_,_,fun A c W h=>puta_call h hk,fun A c W h=>putc_call h ho ht hl,h1,h2⟩
theorem reada_call {A : Option Addr} {c : Nat} {l : List Int} {N : Int} {W : World} (h : Rw (Kd.int .u8) A c l W) (hb : ∀ x ∈ l,0 ≤ x∧x < 256) (hx : l.length < 1000000000) (hN : N < 1000000) :
 Calls Try.prog 21 #[.slice A l.length c,.int .i64 N] W fun e w'=>∃ A' c',e = .returned (.tuple #[.slice A' (readV l N).1.length c',.int .i64 (readV l N).2.1,.int .i64 (readV l N).2.2])∧Rw k35 A' c' (readV l N).1 w'∧Below W.heap.size W w':=by
 obtain ⟨k,hk⟩:=reads_ok l N hb hx hN;refine (runs_Read.calls k A c l N _ _ _ W h.C.2 h.C.1 hk).mono ?_;rintro e w' ⟨v0,rfl,hR,hb⟩
 obtain ⟨A',c',rfl,hr⟩:=made_row hR;exact ⟨A',c',rfl,hr,hb⟩
theorem readb_call {A : Option Addr} {c : Nat} {l : List Int} {N : Int} {W : World} (h : Rw (Kd.int .u8) A c l W) (hb : ∀ x ∈ l,0 ≤ x∧x < 256) (hx : l.length < 1000000000) (hN : N < 1000000) (hN0 : -9223372036854775808 ≤ N) :
 Calls Try.prog 22 #[.slice A l.length c,.int .i64 N] W fun e w'=>∃ A' c',e = .returned (.tuple #[.slice A' (readV l N).1.length c',.int .i64 (readV l N).2.1,.int .i64 (readV l N).2.2])∧Rw k35 A' c' (readV l N).1 w'∧Below W.heap.size W w':=by
 refine (readc_call A c l N W h.C.2 h.C.1 hb hx hN hN0).mono ?_;rintro e w' ⟨v0,rfl,hR,hb⟩
 obtain ⟨A',c',rfl,hr⟩:=made_row hR;exact ⟨A',c',rfl,hr,hb⟩
theorem readS_len (b : List Int) (N : Int) : ∀ f out a,(out.length : Int) ≤ max N out.length → ((readS b N f out a).1.length : Int) ≤ max N out.length:=by
 intro f;induction f with
|zero=>intro out a h;rw [readS];simp only [List.length_nil];omega
|succ f ih =>
  intro out a h;rw [readS];split
  ·rename_i hlt
   split
   ·split
    ·simp only [List.length_nil];omega
    ·rename_i hg
     have h1:=not_or.1 hg;have h2:=not_or.1 h1.2;have:=ih (out ++ List.replicate (decRun (b.drop a)).1.toNat (cellS (decRun (b.drop a)))) (a + (decRun (b.drop a)).2.2.2.2.1.toNat) (by omega);rw [zV,List.length_replicate] at this;omega
   ·simp only [List.length_nil];omega
  ·exact h
theorem readV_len (b : List Int) (N : Int) (hN : N < 1000000) : (readV b N).1.length ≤ 1000000:=by
 have:=readS_len b N (N.toNat + 1) [] 0 (by simp only [List.length_nil];omega);simp only [List.length_nil] at this;unfold readV;omega
theorem samea_call {A A' : Option Addr} {c c' : Nat} {l : List S35} {W : World} (h : Rw k35 A c l W) (h' : Rw k35 A' c' l W) (hl : l.length ≤ 1000000) :
 Calls Try.prog 15 #[.slice A l.length c,.slice A' l.length c'] W fun e w'=>e = .returned (.bool true)∧Below W.heap.size W w':=same_call (q:=⟨A,l.length,c⟩) (c:=⟨A',l.length,c'⟩) h h' hl
end Go.Proofs.Ytooageeehallbaa.Scr
namespace Go.Proofs.Ytooageeehallbaa.Scr
open Go.RowKit Go.Proofs.YtooageeehallbaaW.PrintWords Go.Proofs.YtooageeehallbaaW.PrintLast Go.Proofs.YtooageeehallbaaW.PrintMore Go.Proofs.Ytooageeehallbaa.QRunsCut
set_option linter.unusedVariables false
set_option linter.unusedSimpArgs false
section
variable {P : Program} {ops rest : List Oper} {Q : Exit → Act → World → Prop} {a : Act} {o : Oper} {W : World} {base : Nat} {ok : Nat → Prop} {g n cap : Nat} {xs : List S35}
end
end Go.Proofs.Ytooageeehallbaa.Scr
namespace Go.Proofs.Ytooageeehallbaa.QRunsCut
open Go.RowKit Go.Proofs.YtooageeehallbaaW.PrintWords Go.Proofs.YtooageeehallbaaW.PrintLast Go.Proofs.YtooageeehallbaaW.PrintMore
attribute [local go_sem] max2_int min2_int max_two min_two max_three min_three max_four min_four   -- for this text's walks alone
set_option linter.unusedVariables false
set_option linter.unusedSimpArgs false
/-! ### api_Cell: function 39 -/
/-! ### grid_size: function 43 -/
/-! ### grid_rows: function 57 -/
/-! ### grid_within: function 40 -/
/-! ### grid_near: function 41 -/
/-! ### grid_blank: function 58 -/
end Go.Proofs.Ytooageeehallbaa.QRunsCut
namespace Go.Proofs.Ytooageeehallbaa.Scr
open Go.RowKit Go.Proofs.YtooageeehallbaaW.PrintWords Go.Proofs.YtooageeehallbaaW.PrintLast Go.Proofs.YtooageeehallbaaW.PrintMore Go.Proofs.Ytooageeehallbaa.QRunsCut
attribute [local go_sem] max2_int min2_int max_two min_two max_three min_three max_four min_four   -- for this text's walks alone
set_option linter.unusedVariables false
set_option linter.unusedSimpArgs false
end Go.Proofs.Ytooageeehallbaa.Scr
namespace Go.Proofs.Ytooageeehallbaa.Scr
open Go.RowKit Go.Proofs.YtooageeehallbaaW.PrintWords Go.Proofs.YtooageeehallbaaW.PrintLast Go.Proofs.YtooageeehallbaaW.PrintMore Go.Proofs.Ytooageeehallbaa.QRunsCut
set_option linter.unusedVariables false
set_option linter.unusedSimpArgs false
section
variable {P : Program}
end
end Go.Proofs.Ytooageeehallbaa.Scr
namespace Go.Proofs.Ytooageeehallbaa.Scr
open Go.RowKit Go.Proofs.YtooageeehallbaaW.PrintWords Go.Proofs.YtooageeehallbaaW.PrintLast Go.Proofs.YtooageeehallbaaW.PrintMore Go.Proofs.Ytooageeehallbaa.QRunsCut
set_option linter.unusedVariables false
set_option linter.unusedSimpArgs false
end Go.Proofs.Ytooageeehallbaa.Scr
namespace Go.Proofs.Ytooageeehallbaa.Scr
open Go.RowKit Go.Proofs.YtooageeehallbaaW.PrintWords Go.Proofs.YtooageeehallbaaW.PrintLast Go.Proofs.YtooageeehallbaaW.PrintMore Go.Proofs.Ytooageeehallbaa.QRunsCut
attribute [local go_sem] max2_int min2_int max_two min_two max_three min_three max_four min_four   -- for this text's walks alone
set_option linter.unusedVariables false
set_option linter.unusedSimpArgs false
end Go.Proofs.Ytooageeehallbaa.Scr
namespace Go.Proofs.Ytooageeehallbaa.Scr
open Go.RowKit Go.Proofs.YtooageeehallbaaW.PrintWords Go.Proofs.YtooageeehallbaaW.PrintLast Go.Proofs.YtooageeehallbaaW.PrintMore Go.Proofs.Ytooageeehallbaa.QRunsCut
attribute [local go_sem] max2_int min2_int max_two min_two max_three min_three max_four min_four   -- for this text's walks alone
set_option linter.unusedVariables false
set_option linter.unusedSimpArgs false
theorem row_r {P : Program} {ops : Array Oper} {rest : List Oper} {Q : Exit → Act → World → Prop} {a : Act} {o : Oper} {W : World} {base : Nat} {ok : Nat → Prop} {g n cap : Nat} {xs : List S35} (HR : Kd.R k35 35 W base ok (.slice (some ⟨g,0,none⟩) n cap) xs) {i : Int} (h0 : 0 ≤ i) (h1 : i < n) (hgd : o.guard = none) (hd : o.dst = none) {x y : Operand} (ho : o.op = .store 21 x y) (hx : a.eval x = .pointer (some ⟨g,i.toNat * 3,none⟩))
 {h : Int} (hy : a.eval y = .int .i32 h) (hi : (P.info? 21).map (·.size) = some 1)
 (K : ∀ w1,W.grownBy w1 (some g) → Kd.R k35 35 w1 base ok (.slice (some ⟨g,0,none⟩) n cap) (xs.set i.toNat ⟨h,(rd_T35 xs i).f1,(rd_T35 xs i).f2⟩) → wpList P ops Q rest a w1) : wpList P ops Q (o :: rest) a W:=by
 obtain ⟨c,hcl,hM,hcc,hfr⟩:=Kd.R_elem HR z35 i h0 h1;obtain rfl:=k35_openM hM;have hcell:=hcc 0 _ rfl;have hfro:=hfr 0;rw [Nat.add_zero] at hcell hfro;have hst : (store (⟨g,i.toNat * 3,none⟩ : Addr) (.int .i32 h)).run P W = .ok () (W.setCell ⟨g,i.toNat * 3,none⟩ (.int .i32 h)):=by
  rw [run_store P W _ _ _ rfl];have e1 : W.cell? ⟨g,i.toNat * 3,none⟩ = _:=hcell;have e2 : W.frozen? ⟨g,i.toNat * 3,none⟩ = false:=hfro;rw [e1,e2];rfl
 have hadd : (⟨g,i.toNat * 3,none⟩ : Addr).add 0 = ⟨g,i.toNat * 3,none⟩:=by unfold Addr.add;split <;> simp_all
 have hp:=Kd.R_seg HR i h0 h1 (seg:=[.int .i32 h]) (j:=0) hcl hcc (show 0 + 1 ≤ 3 from by decide) (x':=(⟨h,(rd_T35 xs i).f1,(rd_T35 xs i).f2⟩ : S35)) (okp:=fun k=>ok k∧k ≠ g) (k35_mkM _ _ _ (⟨h,(rd_T35 xs i).f1,(rd_T35 xs i).f2⟩ : S35)) (fun _ hk=>hk);have hk:=K _ hp.2 hp.1;cases hq : P.info? 21 with
|none=>simp [hq] at hi
|some i5 =>
  have hsz : i5.size = 1:=by simpa [hq] using hi
  have hsv : (storeVar 21 (⟨g,i.toNat * 3,none⟩ : Addr) (.int .i32 h)).run P W = .ok () (W.setCell ⟨g,i.toNat * 3,none⟩ (.int .i32 h)):=by
   simp [storeVar,sizeOf,typeInfo,hq,hsz,Value.cells,storeCells,hadd,hst]
  refine wpList_plain hgd fun K2 hK2=>?_
  unfold Oper.wp execOp;simp only [ho,hx,hy,Instr.storeAt,Instr.sureAddr,Sem.run_bind,Sem.run_pure,Result.andThen_ok,hsv];show K2 (a.put o.dst undef) _
  have hput : a.put o.dst undef = a:=by rw [hd];rfl
  rw [hput];exact hK2 _ _ hk
theorem one21' : (Try.prog.info? 21).map (·.size) = some 1:=by kernel_rfl
end Go.Proofs.Ytooageeehallbaa.Scr
namespace Go.Proofs.Ytooageeehallbaa.Scr
open Go.RowKit Go.Proofs.YtooageeehallbaaW.PrintWords Go.Proofs.YtooageeehallbaaW.PrintLast Go.Proofs.YtooageeehallbaaW.PrintMore Go.Proofs.Ytooageeehallbaa.QRunsCut
attribute [local go_sem] max2_int min2_int max_two min_two max_three min_three max_four min_four   -- for this text's walks alone
set_option linter.unusedVariables false
set_option linter.unusedSimpArgs false
def five : List S35:=[⟨32,0,0⟩,⟨32,0,0⟩,⟨32,0,0⟩,⟨32,0,0⟩,⟨32,0,0⟩]
theorem p5 : runs_Put.f 60 five = some ([5,32,0],0):=by kernel_rfl
theorem p0 : runs_Put.f 60 [z35] = some ([],27):=by kernel_rfl
theorem r5 : runs_Read.f 60 [5,32,0,9] 5 = some (five,3,0):=by kernel_rfl
theorem s5 : repriseref7_SameCells.f 60 five five = some true:=by kernel_rfl
theorem str5 : ((strOfNums [5,32,0]).toList == ([5,32,0] : List UInt8)) = true:=by rw [Lib.strOfNums_toList];rfl
set_option maxHeartbeats 4000000 in
set_option maxRecDepth 100000 in
theorem known6h_call (w : World) : Calls Try.prog 16 #[] w fun e w'=>e = .returned (.bool true)∧Below w.heap.size w w':=by
 have HB:=zA (zE w.heap.size w);go_enter Try.func16,Try.ntmps16
 go_wp2_with (((with_reducible refine zG (N:=10) rfl ?_);refine Kd.R_make k35 _ 35 rfl (N:=10) rfl 24 _ _ rfl _ rfl rfl Try.underlying24 (.agg #[(.int .i32 0),(.int .u16 0),(.int .u8 0)]) 8 info35 rfl (by decide) (by omega) z35 (ok:=fun _=>True) (okp:=fun _=>True) (k35_mkM _ _ _ z35) (fun _ hk=>hk) trivial (by decide) (by decide) (zE _ _) (Nat.le_refl _) ?_;intro v10 w10 ho hb hg_ hnew_;clear hg_ hnew_;have hfm:=Kd.R_form ho (by rw [List.length_replicate];decide);rw [List.length_replicate] at hfm;obtain ⟨gt,capt,rfl,gb_,gl_,cl_⟩:=hfm;clear gb_ gl_ cl_;have HT:=zA (show Kd.R k35 35 w10 w.heap.size (fun _=>True) (.slice (some ⟨gt,0,none⟩) 5 capt) [z35,z35,z35,z35,z35] from Kd.R_lower ho HB.out.size);replace HB:=zA (zJ HB.out HB.out.size hb);clear hb ho));refine wp_loop_rounds 6 ?_;rw [rounds_succ];go_wp2_with (((with_reducible refine zH (t:=21) (p:=18) rfl ?_);refine row_r HT.out (i:=0) (by decide) (by decide) rfl rfl rfl rfl rfl one21' ?_;intro w18 hg ho;replace HB:=zA (hb_own HB.out HT.out hg);replace HT:=zA ho;clear hg ho));rw [rounds_succ];go_wp2_with (((with_reducible refine zH (t:=21) (p:=18) rfl ?_);refine row_r HT.out (i:=1) (by decide) (by decide) rfl rfl rfl rfl rfl one21' ?_;intro w18 hg ho;replace HB:=zA (hb_own HB.out HT.out hg);replace HT:=zA ho;clear hg ho));rw [rounds_succ];go_wp2_with (((with_reducible refine zH (t:=21) (p:=18) rfl ?_);refine row_r HT.out (i:=2) (by decide) (by decide) rfl rfl rfl rfl rfl one21' ?_;intro w18 hg ho;replace HB:=zA (hb_own HB.out HT.out hg);replace HT:=zA ho;clear hg ho));rw [rounds_succ];go_wp2_with (((with_reducible refine zH (t:=21) (p:=18) rfl ?_);refine row_r HT.out (i:=3) (by decide) (by decide) rfl rfl rfl rfl rfl one21' ?_;intro w18 hg ho;replace HB:=zA (hb_own HB.out HT.out hg);replace HT:=zA ho;clear hg ho));rw [rounds_succ];go_wp2_with (((with_reducible refine zH (t:=21) (p:=18) rfl ?_);refine row_r HT.out (i:=4) (by decide) (by decide) rfl rfl rfl rfl rfl one21' ?_;intro w18 hg ho;replace HB:=zA (hb_own HB.out HT.out hg);replace HT:=zA ho;clear hg ho));rw [rounds_succ];go_upto_region 6 with (fail)
 have HL:=zA (show Rw k35 (some ⟨gt,0,none⟩) capt five w18 from mvRow.mono (R_row HT.out rfl) (fun _ _=>trivial));clear HT;go_upto_region 7 with (((with_reducible refine zG (N:=21) rfl ?_);refine goesL_ (some 21) rfl rfl Try.func17 (by kernel_rfl) rfl _ rfl rfl ?_;(try simp only [zS,zT,zU]);have e_:=puta_call HL.out p5;refine Calls.mono e_ ?_;clear e_;rintro e w21 ⟨Ab,cb,rfl,NB,hb⟩;have HS:=zA NB;clear NB;(try replace HL:=zA (Rw.call HL.out hb));replace HB:=zA (zJ HB.out HB.out.size hb);clear hb;refine ⟨_,rfl,?_⟩))
 go_upto_region 8 with (first|((with_reducible refine gate_builtin (b:=.append) (xs:=#[.const (.slice none 0 0),.tmp 25]) rfl ?_);at_builtin;refine Kd.R_append_rows (Kd.int .u8) (w0:=w21) w21.heap.size rfl (.const (.slice none 0 0)) (.tmp 25) 22 5 (.int .u8 0) 1 rfl Try.underlying22 info5 rfl (by decide) (by omega) (.slice none 0 0) ([] : List Int) [5,32,0] _ _ _ (fun _=>True) (fun _=>False) rfl rfl (Kd.R_nil _ _ _ _ _) HS.out.C.2 (fun _ _ h=>h) (fun _ h=>h.elim) (fun _ _=>trivial) (zE _ _) (Nat.le_refl _) (by decide) ?_;intro v26 w26 ho hbz hg hat;rw [List.nil_append] at ho;have HT:=zA ho;have HBz:=zA hbz;clear ho hbz hg hat)|((with_reducible refine gate_builtin (b:=.append) (xs:=#[.tmp 26,.tmp 27]) rfl ?_);at_builtin;refine Kd.R_append (Kd.int .u8) (w0:=w21) w21.heap.size rfl (.tmp 26) (.tmp 27) 22 5 (.int .u8 0) 1 rfl Try.underlying22 info5 rfl (by decide) (by omega) v26 [5,32,0] 9 [.int .u8 9] (fun _=>True) (fun _=>False) rfl rfl ?aP (fun _ hk=>hk.elim) ?aF ?aO ?aB ?aS ?aL ?_;(case aP=>exact rfl);(case aB=>exact HBz.out);(case aF=>exact (fun _ _=>trivial));(case aO=>exact HT.out);(case aS=>exact HBz.out.size);(case aL=>decide);intro v28 w28 ho hb hg hat;clear hg hat HT HBz;have HT:=zA (show Kd.R (Kd.int .u8) 5 w28 w21.heap.size (fun _=>True) v28 [5,32,0,9] from ho);(try replace HL:=zA (Rw.call HL.out hb));(try replace HS:=zA (Rw.call HS.out hb));replace HB:=zA (zJ HB.out HB.out.size hb);clear hb ho;obtain ⟨A28,c28,HX,e28⟩ : ∃ A c,Aside0 (Rw (Kd.int .u8) A c [5,32,0,9] w28)∧v28 = .slice A 4 c:=by {obtain ⟨A,c,e⟩:=Kd.R_slice HT.out;exact ⟨A,c,⟨by rw [e] at HT;exact mvRow.mono (R_row HT.out rfl) (fun _ _=>trivial)⟩,e⟩};subst e28;clear HT)|((with_reducible refine zG (N:=29) rfl ?_);refine goesL_ (some 29) rfl rfl Try.func21 (by kernel_rfl) rfl _ rfl rfl ?_;(try simp only [zS,zT,zU]);have e_:=readk_call HX.out r5;refine Calls.mono e_ ?_;clear e_;rintro e w29 ⟨Am,cm,rfl,NM,hb⟩;have HM:=zA NM;clear NM;(try replace HL:=zA (Rw.call HL.out hb));(try replace HS:=zA (Rw.call HS.out hb));replace HB:=zA (zJ HB.out HB.out.size hb);clear hb;refine ⟨_,rfl,?_⟩))
 go_upto_region 9 with (first|((with_reducible refine zG (N:=35) rfl ?_);refine Kd.R_lit k35 _ 35 ?hg (N:=35) ?hd (xs:=([z35] : List S35)) (inner:=[.int .i32 0,.int .u16 0,.int .u8 0]) (ok:=fun _=>True) (okp:=fun _=>True) ?hr ?hp (fun _ hk=>hk) trivial (zE _ _) (Nat.le_refl _) (by simp) ?_;(case hd=>rfl);(case hg=>rfl);(case hr=>(go_simp;done));(case hp=>exact (Reps.c3 (show Kd.M k35 _ _ _ z35 [.int .i32 0,.int .u16 0,.int .u8 0] from (k35_mkM _ _ _ z35)) (Reps.none _ _)));intro v35 w35 ho hb hg_ hnew_;clear hg_ hnew_;obtain ⟨A35,c35,HZ,e35⟩ : ∃ A c,Aside0 (Rw k35 A c [z35] w35)∧v35 = .slice A 1 c:=by {obtain ⟨A,c,e⟩:=Kd.R_slice ho;exact ⟨A,c,⟨by rw [e] at ho;exact mvRow.mono (R_row ho rfl) (fun _ _=>trivial)⟩,e⟩};subst e35;(try replace HL:=zA (Rw.call HL.out hb));(try replace HS:=zA (Rw.call HS.out hb));(try replace HM:=zA (Rw.call HM.out hb));replace HB:=zA (zJ HB.out HB.out.size hb);clear hb ho)|((with_reducible refine zG (N:=36) rfl ?_);refine goesL_ (some 36) rfl rfl Try.func17 (by kernel_rfl) rfl _ rfl rfl ?_;(try simp only [zS,zT,zU]);have e_:=puta_call HZ.out p0;refine Calls.mono e_ ?_;clear e_;rintro e w36 ⟨Ag,cg,rfl,NG,hb⟩;clear NG;(try replace HL:=zA (Rw.call HL.out hb));(try replace HS:=zA (Rw.call HS.out hb));(try replace HM:=zA (Rw.call HM.out hb));replace HB:=zA (zJ HB.out HB.out.size hb);clear hb;refine ⟨_,rfl,?_⟩))
 have hS:=show (convert 22 9 (.slice Ab 3 cb)).run Try.prog w36 = .ok (.string (strOfNums [5,32,0])) w36 from str_row HS.out
 have hs5:=str5;go_wp2_with (fail);have e_:=repriseref7_SameCells.calls 60 (some ⟨gt,0,none⟩) capt five Am cm five true w36 HL.out.C.2 HL.out.C.1 HM.out.C.2 HM.out.C.1 s5;refine Calls.mono e_ ?_;clear e_ hS hs5;rintro e w57 ⟨rfl,hd⟩
 replace HB:=zA (zJ HB.out HB.out.size (below_drawn hd));clear hd;go_wp2_with (fail);refine Calls.mono (runs_Right.calls 0 0 2 true _ (by kernel_rfl)) ?_;rintro e w65 ⟨rfl,hb⟩
 replace HB:=zA (zJ HB.out HB.out.size hb);clear hb;go_wp2_with (fail);go_ret;exact ⟨rfl,HB.out⟩
end Go.Proofs.Ytooageeehallbaa.Scr
namespace Go.Proofs.Ytooageeehallbaa.Scr
open Go.RowKit Go.Proofs.YtooageeehallbaaW.PrintWords Go.Proofs.YtooageeehallbaaW.PrintLast Go.Proofs.YtooageeehallbaaW.PrintMore Go.Proofs.Ytooageeehallbaa.QRunsCut Go.Proofs.Ytooageeehallbaa.Runs
attribute [local go_sem] max2_int min2_int max_two min_two max_three min_three max_four min_four   -- for this text's walks alone
set_option linter.unusedVariables false
set_option linter.unusedSimpArgs false
theorem rem_nat {x : Int} {R : Nat} (h : 0 ≤ x) (hR : 1 ≤ R) : ∃ t : Nat,Int.tmod x (R : Int) = (t : Int)∧t < R:=by
 have h1:=law_mod h (show 0 < R by omega);exact ⟨(Int.tmod x (R : Int)).toNat,by omega,by omega⟩
theorem xor8_range (a b : Int) (ha : 0 ≤ a∧a < 256) (hb : 0 ≤ b∧b < 256) : 0 ≤ Go.bits .xor .u8 a b∧Go.bits .xor .u8 a b < 256:=by
 rw [u8_xor a b ha.1 ha.2 hb.1 hb.2];have:=Nat.xor_lt_two_pow (n:=8) (x:=a.toNat) (y:=b.toNat) (by omega) (by omega);omega
theorem set_bytes {l : List Int} (h : ∀ x ∈ l,0 ≤ x∧x < 256) {i : Nat} {v : Int} (hv : 0 ≤ v∧v < 256) : ∀ x ∈ l.set i v,0 ≤ x∧x < 256:=by
 intro x hx;rcases List.mem_or_eq_of_mem_set hx with h1|h1
 ·exact h x h1
 ·rw [h1];exact hv
theorem rd_byte {l : List Int} (h : ∀ x ∈ l,0 ≤ x∧x < 256) {j : Nat} (hj : j < l.length) : 0 ≤ rd l (j : Int)∧rd l (j : Int) < 256:=by
 unfold rd;rw [Int.toNat_natCast,List.getD_eq_getElem?_getD,List.getElem?_eq_getElem hj];exact h _ (List.getElem_mem hj)
theorem cell_t {l : List S35} (h : ∀ c ∈ l,CellOk c) : ∀ c ∈ l,CellT c:=fun c hc=>⟨(h c hc).a.1,by have:=(h c hc).a.2.1;omega,(h c hc).h0,by have:=(h c hc).h2;omega⟩
set_option maxHeartbeats 8000000 in
set_option maxRecDepth 100000 in
theorem runsTell_walk (Ra : Option Addr) (cr : Nat) (raw : List S35) (bl : Sl) (Bb : Option Addr) (cb : Nat) (by_ : List Int) (n k : Int) (hk : 0 ≤ k∧k ≤ 255) (hn : -9223372036854775808 ≤ n∧n ≤ 9223372036854775807) (w : World) (hraw : Rw k35 Ra cr raw w) (hct : ∀ c ∈ raw,CellT c) (hl : Row (Kd.int .u8) bl Bytes8 w (fun k=>k < w.heap.size)) (hby : Rw (Kd.int .u8) Bb cb by_ w) (hbb : ∀ x ∈ by_,0 ≤ x∧x < 256) :
 Calls Try.prog 5 #[.slice Ra raw.length cr,.slice bl.A bl.n bl.c,.slice Bb by_.length cb,.int .i64 n,.int .u8 k] w fun e w'=>e = .returned (.bool true)∧Below w.heap.size w w':=by
 have HB:=zA (zE w.heap.size w);have hraw:=zA hraw;have hby:=zA hby;have hct:=zA hct;have hbb:=zA hbb;have hnn:=zA hn;clear hn;go_enter Try.func5,Try.ntmps5
 rcases Nat.lt_or_ge 40 raw.length with hbig|hs1
 ·have e1 : decide (40 < (raw.length : Int)) = true:=zC (by omega);go_wp2_with (((with_reducible refine zG (N:=30) rfl ?_);refine goesL_ (some 30) rfl rfl Try.func16 (by kernel_rfl) rfl _ rfl rfl ?_;(try simp only [zS,zT,zU]);refine Calls.mono (known6h_call _) ?_;rintro e w30 ⟨rfl,hb⟩;replace HB:=zA (zJ HB.out HB.out.size hb);clear hb;refine ⟨_,rfl,?_⟩));go_ret;exact ⟨rfl,HB.out⟩
 have e1 : decide (40 < (raw.length : Int)) = false:=zD (by omega);rcases Nat.lt_or_ge 30 bl.n with hbig|hsmall
 ·have e2 : decide (30 < (bl.n : Int)) = true:=zC (by omega);go_wp2_with (((with_reducible refine zG (N:=30) rfl ?_);refine goesL_ (some 30) rfl rfl Try.func16 (by kernel_rfl) rfl _ rfl rfl ?_;(try simp only [zS,zT,zU]);refine Calls.mono (known6h_call _) ?_;rintro e w30 ⟨rfl,hb⟩;replace HB:=zA (zJ HB.out HB.out.size hb);clear hb;refine ⟨_,rfl,?_⟩));go_ret;exact ⟨rfl,HB.out⟩
 have e2 : decide (30 < (bl.n : Int)) = false:=zD (by omega);rcases Nat.lt_or_ge 60 by_.length with hbig|hs3
 ·have e3 : decide (60 < (by_.length : Int)) = true:=zC (by omega);go_wp2_with (((with_reducible refine zG (N:=30) rfl ?_);refine goesL_ (some 30) rfl rfl Try.func16 (by kernel_rfl) rfl _ rfl rfl ?_;(try simp only [zS,zT,zU]);refine Calls.mono (known6h_call _) ?_;rintro e w30 ⟨rfl,hb⟩;replace HB:=zA (zJ HB.out HB.out.size hb);clear hb;refine ⟨_,rfl,?_⟩));go_ret;exact ⟨rfl,HB.out⟩
 have e3 : decide (60 < (by_.length : Int)) = false:=zD (by omega);have HL:=zA (mvRow.enter (law_row hl hsmall) (n:=w.heap.size) rfl);have hk1:=zA hk;have hk2:=zA (show 0 ≤ k.tdiv 6 % 256∧k.tdiv 6 % 256 ≤ 255 by omega);clear hl hk;go_upto_region 6 with (first|((with_reducible refine zG (N:=30) rfl ?_);refine goesL_ (some 30) rfl rfl Try.func16 (by kernel_rfl) rfl _ rfl rfl ?_;(try simp only [zS,zT,zU]);refine Calls.mono (known6h_call _) ?_;rintro e w30 ⟨rfl,hb⟩;(try replace HL:=zA (mvRow.call HL.out hb));replace HB:=zA (zJ HB.out HB.out.size hb);clear hb;refine ⟨_,rfl,?_⟩)|((with_reducible refine zG (N:=11) rfl ?_);refine bx_alloc (t:=31) (n:=w.heap.size) (cs:=Scr.zero.cs) rfl rfl rfl Scr.infoz HB.out.size ?_;intro g11 w11 hN hg bx;replace HB:=zA (zL HB.out HB.out.size hg);(try replace HI:=zA (mvInv.fresh HI.out hN hg));(try replace HC:=zA (mvRow.fresh HC.out hN hg));have BX11:=zA bx;clear hN hg bx)|((with_reducible refine zH (t:=31) (p:=11) rfl ?_);refine bx_store BX11.out rfl rfl rfl rfl (cs':=Scr.cs _) rfl (Scr.sizes _) rfl (Scr.all _) ?_;intro w_49 hg bx;replace HB:=zA (zK HB.out BX11.out hg);(try replace HI:=zA (mvInv.grown HI.out hg (by simp only [zW,true_or,or_true])));(try replace HC:=zA (mvRow.grown HC.out hg (by simp only [zW,true_or,or_true])));clear BX11;have BX11:=zA bx;clear bx hg)|((with_reducible refine zG (N:=49) rfl ?_);refine goesL_ (some 49) rfl rfl Try.func11 (by kernel_rfl) rfl _ rfl rfl ?_;(try simp only [zS,zT,zU]);have e_:=seat_inv _ _ hk1.out hk2.out bl _ HL.out;refine Calls.mono e_ ?_;clear e_;rintro e w49 ⟨s_,rfl,NI0,hb⟩;have HI:=zA (mvInv.back (ok:=fun k=>k < w.heap.size) (n:=w.heap.size) (gs:=[]) NI0 HB.out.size (by simp));clear NI0;clear HL;obtain ⟨lc,hG,hcn,hcc,HC0⟩:=Row.pin (show Row k35 s_.c (Grid _ _) _ _ from HI.out.c);have HC:=zA HC0;clear HC0;have hgc:=zA (grid_cells HI.out.small hG);have hGr:=zA hG;clear hG;replace hcn:=zA hcn;replace hcc:=zA hcc;replace HB:=zA (zJ HB.out HB.out.size hb);clear hb;refine ⟨_,rfl,?_⟩))
 clear e1 e2 e3;have hl54 : lc.length ≤ 1000:=by
  have h1:=hGr.out.len;have h2 : (k % 6 + 1) * (k.tdiv 6 % 256 % 9 + 1) ≤ 6 * 9:=Int.mul_le_mul (by have:=hk1.out;omega) (by have:=hk1.out;omega) (by have:=hk2.out;omega) (by decide);omega
 have hlt2:=zA hl54;have hlct:=zA (cell_t hgc.out.1);obtain ⟨Ca,hCa⟩ : ∃ A,A = s_.c.A:=⟨_,rfl⟩;obtain ⟨cc,hcc_⟩ : ∃ c,c = s_.c.c:=⟨_,rfl⟩;replace HC:=zA (show Rw k35 Ca cc lc _ from by rw [hCa,hcc_];exact (Rw.of HC.out).2);have HA:=zA (Rw.since hraw.out HB.out);have HY0:=zA (Rw.since hby.out HB.out);have hcn_:=hcn.out;replace hCa:=hCa.symm;replace hcc_:=hcc_.symm;clear HI hl54 hgc hGr hcn hcc hraw hby;go_wp2_with (first|((with_reducible refine zG (N:=52) rfl ?_);refine bx_get BX11.out rfl rfl rfl rfl Try.underlying24 rfl (Scr.get_c _) ?_)|((with_reducible refine zG (N:=53) rfl ?_);refine bsn (m:=2) rfl rfl (by go_simp;rfl) ?_;intro g53 w53 hN hg bx;have hge:=HB.out.size;replace HA:=zA (Rw.new HA.out hg);replace HC:=zA (Rw.new HC.out hg);replace HY0:=zA (Rw.new HY0.out hg);replace HB:=zA (zL HB.out HB.out.size hg);have BX53:=zA (show Bx w.heap.size 24 g53 w53 _ from ⟨by omega,bx⟩);clear hN hg bx hge));go_loopg [55] 2 (fun kq v55 wr=>∃ i : Nat,v55 = .int .i64 (i : Int)∧Aside0 (kq = 2 - i∧i ≤ 2)∧Aside0 (Below w.heap.size w wr)∧Aside0 (Bx w.heap.size 24 g53 wr #[.slice Ra raw.length cr,.slice Ca lc.length cc])∧Aside0 (Rw k35 Ra cr raw wr)∧Aside0 (Rw k35 Ca cc lc wr)∧Aside0 (Rw (Kd.int .u8) Bb cb by_ wr))
 case atStart=>exact ⟨0,rfl,⟨rfl,by decide⟩,HB,BX53,HA,HC,HY0⟩
 case round =>
  clear HB BX53 HA HC HY0;obtain ⟨i,rfl,HK,HB,BX53,HA,HC,HY0⟩:=hrel;by_cases hlt : i < 2
  ·have p1:=eq_true (show (i : Int) < 2 by omega);have p1':=eq_true hlt;go_upto_region 8 with (fail)
   go_cut [13] (fun v13 wc=>∃ (Ax : Option Addr) (cx : Nat) (l : List S35),v13 = .slice Ax l.length cx∧Aside0 ((∀ c ∈ l,CellT c)∧l.length ≤ 1000)∧Aside0 (Below w.heap.size w wc)∧Aside0 (Bx w.heap.size 24 g53 wc #[.slice Ra raw.length cr,.slice Ca lc.length cc])∧Aside0 (Rw k35 Ra cr raw wc)∧Aside0 (Rw k35 Ca cc lc wc)∧Aside0 (Rw (Kd.int .u8) Bb cb by_ wc)∧Aside0 (Rw k35 Ax cx l wc))
   case first =>
    obtain rfl|rfl : i = 0∨i = 1:=by omega
    ·have hxL : wr.cell? ⟨g53,0,none⟩ = some (.slice Ra raw.length cr):=by rw [zB wr g53 _ _ 24 (0,0) BX53.out.bx];rfl
     go_wp2;go_meet
     case rel=>exact ⟨Ra,cr,raw,rfl,⟨hct.out,by omega⟩,HB,BX53,HA,HC,HY0,HA⟩
    ·have hxL : wr.cell? ⟨g53,1,none⟩ = some (.slice Ca lc.length cc):=by rw [zB wr g53 _ _ 24 (0,0) BX53.out.bx];rfl
     go_wp2;go_meet
     case rel=>exact ⟨Ca,cc,lc,rfl,⟨hlct.out,hlt2.out⟩,HB,BX53,HA,HC,HY0,HC⟩
   case rest =>
    clear HB BX53 HA HC HY0;obtain ⟨Ax,cx,l,rfl,hxl,HB,BX53,HA,HC,HY0,HX⟩:=hcut;obtain ⟨q,er,hf1_,hf2_,hqb_,hql_⟩:=puts_calls l hxl.out.1 (by have:=hxl.out.2;omega);have hf1:=zA hf1_;have hf2:=zA hf2_;have hqb:=zA hqb_;have hql:=zA (show q.length ≤ 30000 by have:=hxl.out.2;omega);clear hf1_ hf2_ hqb_ hql_;go_upto_region 10 with (((with_reducible refine zG (N:=61) rfl ?_);refine goesL_ (some 61) rfl rfl Try.func17 (by kernel_rfl) rfl _ rfl rfl ?_;(try simp only [zS,zT,zU]);have e_:=hf1.out _ _ _ HX.out;refine Calls.mono e_ ?_;clear e_;rintro e w61 ⟨Ap,cp,rfl,NP,hb⟩;have HP:=zA NP;clear NP;replace BX53:=zA (zM BX53.out hb);replace HA:=zA (Rw.call HA.out hb);replace HC:=zA (Rw.call HC.out hb);replace HY0:=zA (Rw.call HY0.out hb);replace HX:=zA (Rw.call HX.out hb);replace HB:=zA (zJ HB.out HB.out.size hb);clear hb;refine ⟨_,rfl,?_⟩))
    go_upto_region 11 with (((with_reducible refine zG (N:=66) rfl ?_);refine goesL_ (some 66) rfl rfl Try.func18 (by kernel_rfl) rfl _ rfl rfl ?_;(try simp only [zS,zT,zU]);have e_:=hf2.out _ _ _ HX.out;refine Calls.mono e_ ?_;clear e_;rintro e w66 ⟨Aq,cq,rfl,NQ,hb⟩;have HQ:=zA NQ;clear NQ;replace HP:=zA (Rw.call HP.out hb);replace BX53:=zA (zM BX53.out hb);replace HA:=zA (Rw.call HA.out hb);replace HC:=zA (Rw.call HC.out hb);replace HY0:=zA (Rw.call HY0.out hb);replace HX:=zA (Rw.call HX.out hb);replace HB:=zA (zJ HB.out HB.out.size hb);clear hb;refine ⟨_,rfl,?_⟩))
    have hS1:=str_row HP.out;have hS2:=str_row HQ.out;go_upto_region 13 with (fail)
    clear hS1 hS2 HP hf1 hf2;go_wp2;go_loopg [18] l.length (fun kq v18 wr=>∃ j : Nat,v18 = .int .i64 (j : Int)∧Aside0 (kq = l.length - j∧j ≤ l.length)∧Aside0 (Below w.heap.size w wr)∧Aside0 (Bx w.heap.size 24 g53 wr #[.slice Ra raw.length cr,.slice Ca lc.length cc])∧Aside0 (Rw k35 Ra cr raw wr)∧Aside0 (Rw k35 Ca cc lc wr)∧Aside0 (Rw (Kd.int .u8) Bb cb by_ wr)∧Aside0 (Rw k35 Ax cx l wr)∧Aside0 (Rw (Kd.int .u8) Aq cq q wr))
    case atStart=>exact ⟨0,rfl,⟨by omega,by omega⟩,HB,BX53,HA,HC,HY0,HX,HQ⟩
    case round =>
     clear HB BX53 HA HC HY0 HX HQ;obtain ⟨j,rfl,HJ,HB,BX53,HA,HC,HY0,HX,HQ⟩:=hrel;by_cases hj : j < l.length
     ·have p1:=eq_true (show (j : Int) < (l.length : Int) by omega);have p1':=eq_true hj;have p2:=eq_true (show (0 : Int) ≤ (j : Int) by omega);obtain ⟨ad,had,hz0,hz1,hz2⟩:=at_T35 HX.out.C.2 (j : Int) (by omega) (by omega);cases had;obtain ⟨x,hx⟩ : ∃ x,rd_T35 l (j : Int) = x:=⟨_,rfl⟩;rw [hx] at hz0 hz1 hz2;simp only [Int.toNat_natCast] at hz0 hz1 hz2;clear hx;have ei:=zA (show wrap64 ((j : Int) + 1) = ((j + 1 : Nat) : Int) by have:=hxl.out.2;rw [Runs.w64 _ (by omega) (by omega)];omega);go_upto_region 16 with (fail)
      have hb : Below wr.heap.size wr wr.drew:=(zE _ _).drew;replace BX53:=zA (zM BX53.out hb);(try replace HA:=zA (Rw.call HA.out hb));(try replace HC:=zA (Rw.call HC.out hb));(try replace HY0:=zA (Rw.call HY0.out hb));(try replace HX:=zA (Rw.call HX.out hb));(try replace HQ:=zA (Rw.call HQ.out hb));replace HB:=zA (zJ HB.out HB.out.size hb);clear hb;refine start_ (n:=11) (S:=fun w'=>w'.heap[g53]? = some (.cells (#[.slice Ra raw.length cr,.slice Ca lc.length cc]) 24 (0,0))∧w'.cell? (ad.add (j * 3)) = some (.int .i32 x.f0)∧w'.cell? ⟨(ad.add (j * 3)).block,(ad.add (j * 3)).off + 1,none⟩ = some (.int .u16 x.f1)∧w'.cell? ⟨(ad.add (j * 3)).block,(ad.add (j * 3)).off + 2,none⟩ = some (.int .u8 x.f2)) (ds:=[]) (tk 11 0) (by kernel_rfl) rfl rfl ⟨BX53.out.bx,hz0,hz1,hz2⟩ (fun hHeld=>?_);generalize World.drew wr = wD at HB BX53 HA HC HY0 HX HQ hHeld ⊢;refine pGo [(0,some 85),(1,some 86),(2,some 87)] ?_;iterate 3 (refine pA (v:=?_) (a':=?_) rfl rfl (by kernel_rfl) (fun _ _ _ h=>h) (Or.inl ⟨by rfl,?_⟩) ?_ ?_;rotate_left;(· intro w';go_simp;with_reducible rfl);rotate_left;(· simp only [Act.put,zP,zQ,zR,i64_w,i32_w];rfl))
      refine pEnd ?_;refine take_ (i:=3) (N:=(some 88)) (v:=(.agg #[.int .i32 x.f0,.int .u16 x.f1,.int .u8 x.f2])) (a':=?_) (tk 11 4) rfl rfl (by kernel_rfl) (fun _ _ _ h=>h) (Or.inl ⟨by rfl,?_⟩) hHeld ?_ ?_
      ·rintro w' ⟨hs0_,hs1_,hs2_,hs3_⟩
       go_simp
      rotate_left
      ·simp only [Act.put,zP,zQ,zR,i64_w,i32_w];rfl
      refine pGo [(5,some 90),(6,some 91),(7,some 92)] ?_;iterate 3 (refine pA (v:=?_) (a':=?_) rfl rfl (by kernel_rfl) (fun _ _ _ h=>h) (Or.inl ⟨by rfl,?_⟩) ?_ ?_;rotate_left;(· intro w';go_simp;with_reducible rfl);rotate_left;(· simp only [Act.put,zP,zQ,zR,i64_w,i32_w];rfl))
      refine pEnd ?_;refine take_ (i:=8) (N:=(some 93)) (v:=(.agg #[.int .i32 x.f0,.int .u16 x.f1,.int .u8 x.f2])) (a':=?_) #[true,true,true,true,false,true,true,true,true,false,false] rfl rfl (by kernel_rfl) (fun _ _ _ h=>h) (Or.inl ⟨by rfl,?_⟩) hHeld ?_ ?_
      ·rintro w' ⟨hs0_,hs1_,hs2_,hs3_⟩
       go_simp
      rotate_left
      ·simp only [Act.put,zP,zQ,zR,i64_w,i32_w];rfl
      refine one_ (i:=4) (N:=(some 89)) (tk 11 9) rfl rfl (by kernel_rfl) (by decide) (fun K hK=>?_);refine goes_ Try.func19 (by kernel_rfl) rfl _ (by rfl) rfl rfl rfl ?_;(try simp only [zS,zT,zU]);refine Calls.mono (runs_Right.calls x.f0 x.f1 x.f2 _ _ (right_v x)) ?_;rintro e w89 ⟨rfl,hb⟩
      refine ⟨_,rfl,?_⟩;replace BX53:=zA (zM BX53.out hb);replace HA:=zA (Rw.call HA.out hb);replace HC:=zA (Rw.call HC.out hb);replace HY0:=zA (Rw.call HY0.out hb);replace HX:=zA (Rw.call HX.out hb);replace HQ:=zA (Rw.call HQ.out hb);replace HB:=zA (zJ HB.out HB.out.size hb);have hz0:=(hb.cell (World.block_lt_of_cell? _ _ hHeld.2.1)).trans hHeld.2.1;have hz1:=(hb.cell (World.block_lt_of_cell? _ _ hHeld.2.2.1)).trans hHeld.2.2.1;have hz2:=(hb.cell (World.block_lt_of_cell? _ _ hHeld.2.2.2)).trans hHeld.2.2.2;clear hb;refine hK.out _ _ ⟨BX53.out.bx,hz0,hz1,hz2⟩ (fun hHeld=>?_);clear hK K hz0 hz1 hz2;refine norm_ (a':=?_) ?_ ?_;rotate_left
      ·show Act.put _ (some 89) _ = _
       simp only [Act.put,zP,zQ,zR,i64_w,i32_w];rfl
      refine one_ (i:=9) (N:=(some 94)) (tk 11 10) rfl rfl (by kernel_rfl) (by decide) (fun K hK=>?_);refine goes_ Try.func20 (by kernel_rfl) rfl _ (by rfl) rfl rfl rfl ?_;(try simp only [zS,zT,zU]);refine Calls.mono (repriseref5_CellRight.calls x.f0 x.f1 x.f2 _ _ (cellright_v x)) ?_;rintro e w94 ⟨rfl,hb⟩
      refine ⟨_,rfl,?_⟩;replace BX53:=zA (zM BX53.out hb);replace HA:=zA (Rw.call HA.out hb);replace HC:=zA (Rw.call HC.out hb);replace HY0:=zA (Rw.call HY0.out hb);replace HX:=zA (Rw.call HX.out hb);replace HQ:=zA (Rw.call HQ.out hb);replace HB:=zA (zJ HB.out HB.out.size hb);have hz0:=(hb.cell (World.block_lt_of_cell? _ _ hHeld.2.1)).trans hHeld.2.1;have hz1:=(hb.cell (World.block_lt_of_cell? _ _ hHeld.2.2.1)).trans hHeld.2.2.1;have hz2:=(hb.cell (World.block_lt_of_cell? _ _ hHeld.2.2.2)).trans hHeld.2.2.2;clear hb;refine hK.out _ _ ⟨BX53.out.bx,hz0,hz1,hz2⟩ (fun hHeld=>?_);clear hK K hz0 hz1 hz2;refine norm_ (a':=?_) ?_ ?_;rotate_left
      ·show Act.put _ (some 94) _ = _
       simp only [Act.put,zP,zQ,zR,i64_w,i32_w];rfl
      refine pGo [(10,some 95)] ?_;(refine pA (v:=?_) (a':=?_) rfl rfl (by kernel_rfl) (fun _ _ _ h=>h) (Or.inl ⟨by rfl,?_⟩) ?_ ?_;rotate_left;(· intro w';go_simp;with_reducible rfl);rotate_left;(· simp only [Act.put,zP,zQ,zR,i64_w,i32_w];rfl))
      refine pEnd ?_;refine done_ (by kernel_rfl) ?_;go_wp2;go_roundg (l.length - (j + 1))
      case measure=>have:=HJ.out;omega
      case rel=>exact ⟨j + 1,by (rw [ei.out]),⟨rfl,hj⟩,HB,BX53,HA,HC,HY0,HX,HQ⟩
     ·have p1:=eq_false (show ¬ (j : Int) < (l.length : Int) by omega);have p1':=eq_false hj;have hjl : j = l.length:=by have:=HJ.out;omega
      clear hj hjl HJ;go_upto_region 19 with (((with_reducible refine gate_builtin (b:=.append) (xs:=#[.const (.slice none 0 0),.tmp 96]) rfl ?_);at_builtin;refine Kd.R_append_rows (Kd.int .u8) (w0:=wr) wr.heap.size rfl (.const (.slice none 0 0)) (.tmp 96) 22 5 (.int .u8 0) 1 rfl Try.underlying22 info5 rfl (by decide) (by omega) (.slice none 0 0) ([] : List Int) q _ _ _ (fun _=>True) (fun _=>False) rfl rfl (Kd.R_nil _ _ _ _ _) HQ.out.C.2 (fun _ _ h=>h) (fun _ h=>h.elim) (fun _ _=>trivial) (zE _ _) (Nat.le_refl _) (by have:=hql.out;simp only [List.length_nil];omega) ?_;intro v97 w97 ho hbz hg hat;rw [List.nil_append] at ho;have HT:=zA ho;have HBz:=zA hbz;clear ho hbz hg hat))
      obtain ⟨Az,cz,ez⟩:=Kd.R_slice HT.out;subst ez;obtain ⟨bz,hbz0⟩ : ∃ b,decide (0 < q.length) = b:=⟨_,rfl⟩;have hbz1 : decide ((0 : Int) < (q.length : Int)) = bz:=by rw [← hbz0];exact decide_eq_decide.2 (by omega)
      go_upto_if 100 with (fail)
      clear hbz1;replace hbz0:=zA hbz0;go_cut [] (fun wc=>∃ zs : List Int,Aside0 (zs.length = q.length∧∀ x ∈ zs,0 ≤ x∧x < 256)∧Aside0 (Below wr.heap.size wr wc)∧Aside0 (Row (Kd.int .u8) ⟨Az,q.length,cz⟩ (fun x=>x = zs) wc (fun _=>True)))
      case first =>
       cases bz with
      |false =>
        go_wp2;go_meet
        case rel=>exact ⟨q,⟨rfl,hqb.out⟩,HBz,⟨R_row HT.out rfl⟩⟩
      |true =>
        have hp : 0 < q.length:=of_decide_eq_true hbz0.out;obtain ⟨gz,capz,hAz,gb_,gl_,cl_⟩:=Kd.R_form HT.out hp;cases hAz;clear gb_ gl_ cl_;obtain ⟨jz,hjz,jlt_⟩:=rem_nat hk1.out.1 hp;have jlt:=zA jlt_;have hx:=own_byte HT.out jlt_;have w1 : wrap64 k = k:=by have:=hk1.out;rw [Runs.w64 _ (by omega) (by omega)]
        have p5:=eq_true (show (0 : Int) ≤ (jz : Int) by omega);have p6:=eq_true jlt_;have d3 : (0 < q.length) = True:=eq_true hp;have hRz : ((q.length : Int) = 0) = False:=eq_false (by omega);have hRz' : (q.length = 0) = False:=eq_false (by omega);clear jlt_ hp;go_wp2_with (((with_reducible refine zH (t:=5) (p:=113) rfl ?_);refine row_put8 HT.out (i:=(jz : Int)) (by omega) (by have:=jlt.out;omega) rfl rfl rfl rfl rfl one5 ?_;intro w_113 hg ho;replace HBz:=zA (hb_own HBz.out HT.out hg);replace HT:=zA ho;clear ho hg));go_meet
        case rel=>exact ⟨_,⟨List.length_set,set_bytes hqb.out (xor8_range _ _ (rd_byte hqb.out jlt.out) (by omega))⟩,HBz,⟨R_row HT.out rfl⟩⟩
      case rest =>
       clear HT HBz;obtain ⟨zs,hzs,hbz_,hZ⟩:=hcut;have hb:=hbz_.out;replace BX53:=zA (zM BX53.out hb);replace HA:=zA (Rw.call HA.out hb);replace HC:=zA (Rw.call HC.out hb);replace HY0:=zA (Rw.call HY0.out hb);replace HX:=zA (Rw.call HX.out hb);replace HQ:=zA (Rw.call HQ.out hb);replace HB:=zA (zJ HB.out HB.out.size hb);clear hb hbz_;have HZ:=zA (show Rw (Kd.int .u8) Az cz zs wc by unfold Rw;rw [hzs.out.1];exact hZ.out);clear hZ;obtain ⟨L1,hL1⟩ : ∃ L1,L1 = q.length + 1:=⟨_,rfl⟩;obtain ⟨j2,hj2,j2lt⟩:=rem_nat hk1.out.1 (show 1 ≤ L1 by omega);have hj2q:=zA (show j2 ≤ q.length by omega);have hLz : ((L1 : Int) = 0) = False:=eq_false (by omega);have hLz' : (L1 = 0) = False:=eq_false (by omega);have qcut:=fun W=>cut_run (n:=q.length) (c:=cq) Aq (j:=(j2 : Int)) (by omega) (by omega) HQ.out.C.1 W
       simp only [Int.toNat_natCast] at qcut;have z1 : -9223372036854775808 ≤ k∧k < 9223372036854775808:=by have:=hk1.out;omega
       have z2 : (q.length : Int) + 1 = (L1 : Int):=by omega
       have z3 : -9223372036854775808 ≤ (L1 : Int)∧(L1 : Int) < 9223372036854775808:=by have:=hql.out;omega
       have wL : wrap64 ((q.length : Int) + 1) = (L1 : Int):=by rw [z2,Runs.w64 _ z3.1 z3.2]
       have w1 : wrap64 k = k:=Runs.w64 _ z1.1 z1.2;clear z1 z2 z3 hL1 j2lt;go_wp2_with (((with_reducible refine zG (N:=125) rfl ?_);refine bsn (m:=4) rfl rfl (by go_simp;rfl) ?_;intro g125 w125 hN hg bx;have hge:=HB.out.size;replace BX53:=zA (zO BX53.out hg);replace HA:=zA (Rw.new HA.out hg);replace HC:=zA (Rw.new HC.out hg);replace HY0:=zA (Rw.new HY0.out hg);replace HX:=zA (Rw.new HX.out hg);replace HQ:=zA (Rw.new HQ.out hg);replace HZ:=zA (Rw.new HZ.out hg);replace HB:=zA (zL HB.out HB.out.size hg);have BX125:=zA (show Bx w.heap.size 22 g125 w125 _ from ⟨by omega,bx⟩);clear hN hg bx hge));clear wL w1 hLz hLz' qcut hj2;go_loopg [127] 4 (fun kq v127 wr=>∃ i2 : Nat,v127 = .int .i64 (i2 : Int)∧Aside0 (kq = 4 - i2∧i2 ≤ 4)∧Aside0 (Below w.heap.size w wr)∧Aside0 (Bx w.heap.size 24 g53 wr #[.slice Ra raw.length cr,.slice Ca lc.length cc])∧Aside0 (Rw k35 Ra cr raw wr)∧Aside0 (Rw k35 Ca cc lc wr)∧Aside0 (Rw (Kd.int .u8) Bb cb by_ wr)∧Aside0 (Rw k35 Ax cx l wr)∧Aside0 (Rw (Kd.int .u8) Aq cq q wr)∧Aside0 (Rw (Kd.int .u8) Az cz zs wr)∧Aside0 (Bx w.heap.size 22 g125 wr #[.slice Bb by_.length cb,.slice Aq q.length cq,.slice Az q.length cz,.slice Aq j2 cq]))
       case atStart=>exact ⟨0,rfl,⟨rfl,by decide⟩,HB,BX53,HA,HC,HY0,HX,HQ,HZ,BX125⟩
       case round =>
        clear HB BX53 HA HC HY0 HX HQ HZ BX125;obtain ⟨i2,rfl,HK2,HB,BX53,HA,HC,HY0,HX,HQ,HZ,BX125⟩:=hrel;by_cases hlt2_ : i2 < 4
        ·have p1:=eq_true (show (i2 : Int) < 4 by omega);have p1':=eq_true hlt2_;go_upto_region 23 with (fail)
         go_cut [21] (fun v21 wc=>∃ (Ay : Option Addr) (cy : Nat) (ys : List Int),v21 = .slice Ay ys.length cy∧Aside0 ((∀ x ∈ ys,0 ≤ x∧x < 256)∧ys.length < 1000000000)∧Aside0 (Below w.heap.size w wc)∧Aside0 (Bx w.heap.size 24 g53 wc #[.slice Ra raw.length cr,.slice Ca lc.length cc])∧Aside0 (Rw k35 Ra cr raw wc)∧Aside0 (Rw k35 Ca cc lc wc)∧Aside0 (Rw (Kd.int .u8) Bb cb by_ wc)∧Aside0 (Rw k35 Ax cx l wc)∧Aside0 (Rw (Kd.int .u8) Aq cq q wc)∧Aside0 (Rw (Kd.int .u8) Az cz zs wc)∧Aside0 (Bx w.heap.size 22 g125 wc #[.slice Bb by_.length cb,.slice Aq q.length cq,.slice Az q.length cz,.slice Aq j2 cq])∧Aside0 (Rw (Kd.int .u8) Ay cy ys wc))
         case first =>
          have hql_:=hql.out;obtain rfl|rfl|rfl|rfl : i2 = 0∨i2 = 1∨i2 = 2∨i2 = 3:=by omega
          ·have hxL : wr.cell? ⟨g125,0,none⟩ = some (.slice Bb by_.length cb):=by rw [zB wr g125 _ _ 22 (0,0) BX125.out.bx];rfl
           go_wp2;go_meet
           case rel=>exact ⟨Bb,cb,by_,rfl,⟨hbb.out,by omega⟩,HB,BX53,HA,HC,HY0,HX,HQ,HZ,BX125,HY0⟩
          ·have hxL : wr.cell? ⟨g125,1,none⟩ = some (.slice Aq q.length cq):=by rw [zB wr g125 _ _ 22 (0,0) BX125.out.bx];rfl
           go_wp2;go_meet
           case rel=>exact ⟨Aq,cq,q,rfl,⟨hqb.out,by omega⟩,HB,BX53,HA,HC,HY0,HX,HQ,HZ,BX125,HQ⟩
          ·have hxL : wr.cell? ⟨g125,2,none⟩ = some (.slice Az q.length cz):=by rw [zB wr g125 _ _ 22 (0,0) BX125.out.bx];rfl
           go_wp2;go_meet
           case rel=>exact ⟨Az,cz,zs,by rw [hzs.out.1],⟨hzs.out.2,by rw [hzs.out.1];omega⟩,HB,BX53,HA,HC,HY0,HX,HQ,HZ,BX125,HZ⟩
          ·have hxL : wr.cell? ⟨g125,3,none⟩ = some (.slice Aq j2 cq):=by rw [zB wr g125 _ _ 22 (0,0) BX125.out.bx];rfl
           have htl : (q.take j2).length = j2:=by rw [List.length_take];exact Nat.min_eq_left hj2q.out
           replace htl:=zA htl;go_wp2;go_meet
           case rel=>exact ⟨Aq,cq,q.take j2,by rw [htl.out],⟨fun x hx=>hqb.out x (List.mem_of_mem_take hx),by rw [htl.out];have:=hj2q.out;omega⟩,HB,BX53,HA,HC,HY0,HX,HQ,HZ,BX125,⟨by unfold Rw;rw [htl.out];exact Row.take HQ.out hj2q.out⟩⟩
         case rest =>
          clear HB BX53 HA HC HY0 HX HQ HZ BX125;obtain ⟨Ay,cy,ys,rfl,hyb,HB,BX53,HA,HC,HY0,HX,HQ,HZ,BX125,HY⟩:=hcut;obtain ⟨m0,hm0⟩ : ∃ m : Int,(if 2000 < n then 2000 else n) = m:=⟨_,rfl⟩;obtain ⟨m2,hm2⟩ : ∃ m : Int,wrap64 (k.tmod 20) = m:=⟨_,rfl⟩;have hm0r:=zA (show -9223372036854775808 ≤ m0∧m0 < 1000000 by have:=hnn.out;rw [← hm0];split <;> omega);have hm2r:=zA (show -9223372036854775808 ≤ m2∧m2 < 1000000 by
           have h1:=law_mod (b:=20) hk1.out.1 (by decide);have e8 : ((20 : Nat) : Int) = 20:=rfl;rw [e8] at h1;rw [← hm2,Runs.w64 _ (by omega) (by omega)];omega)
          go_wp2_with (((with_reducible refine zG (N:=138) rfl ?_);refine bsn (m:=3) rfl rfl (by go_simp;rfl) ?_;intro g138 w138 hN hg bx;have hge:=HB.out.size;replace BX53:=zA (zO BX53.out hg);replace HA:=zA (Rw.new HA.out hg);replace HC:=zA (Rw.new HC.out hg);replace HY0:=zA (Rw.new HY0.out hg);replace HX:=zA (Rw.new HX.out hg);replace HQ:=zA (Rw.new HQ.out hg);replace HZ:=zA (Rw.new HZ.out hg);replace BX125:=zA (zO BX125.out hg);replace HY:=zA (Rw.new HY.out hg);replace HB:=zA (zL HB.out HB.out.size hg);have BX138:=zA (show Bx w.heap.size 3 g138 w138 _ from ⟨by omega,bx⟩);clear hN hg bx hge));clear hm0 hm2;go_loopg [140] 3 (fun kq v140 wr=>∃ i3 : Nat,v140 = .int .i64 (i3 : Int)∧Aside0 (kq = 3 - i3∧i3 ≤ 3)∧Aside0 (Below w.heap.size w wr)∧Aside0 (Bx w.heap.size 24 g53 wr #[.slice Ra raw.length cr,.slice Ca lc.length cc])∧Aside0 (Rw k35 Ra cr raw wr)∧Aside0 (Rw k35 Ca cc lc wr)∧Aside0 (Rw (Kd.int .u8) Bb cb by_ wr)∧Aside0 (Rw k35 Ax cx l wr)∧Aside0 (Rw (Kd.int .u8) Aq cq q wr)∧Aside0 (Rw (Kd.int .u8) Az cz zs wr)∧Aside0 (Bx w.heap.size 22 g125 wr #[.slice Bb by_.length cb,.slice Aq q.length cq,.slice Az q.length cz,.slice Aq j2 cq])∧Aside0 (Rw (Kd.int .u8) Ay cy ys wr)∧Aside0 (Bx w.heap.size 3 g138 wr #[.int .i64 m0,.int .i64 (l.length : Int),.int .i64 m2]))
          case atStart=>exact ⟨0,rfl,⟨rfl,by decide⟩,HB,BX53,HA,HC,HY0,HX,HQ,HZ,BX125,HY,BX138⟩
          case round =>
           clear HB BX53 HA HC HY0 HX HQ HZ BX125 HY BX138;obtain ⟨i3,rfl,HK3,HB,BX53,HA,HC,HY0,HX,HQ,HZ,BX125,HY,BX138⟩:=hrel;by_cases hlt3 : i3 < 3
           ·have p1:=eq_true (show (i3 : Int) < 3 by omega);have p1':=eq_true hlt3;go_upto_region 26 with (fail)
            go_cut [23] (fun v23 wc=>∃ m : Int,v23 = .int .i64 m∧Aside0 (-9223372036854775808 ≤ m∧m < 1000000)∧Aside0 (Below w.heap.size w wc)∧Aside0 (Bx w.heap.size 24 g53 wc #[.slice Ra raw.length cr,.slice Ca lc.length cc])∧Aside0 (Rw k35 Ra cr raw wc)∧Aside0 (Rw k35 Ca cc lc wc)∧Aside0 (Rw (Kd.int .u8) Bb cb by_ wc)∧Aside0 (Rw k35 Ax cx l wc)∧Aside0 (Rw (Kd.int .u8) Aq cq q wc)∧Aside0 (Rw (Kd.int .u8) Az cz zs wc)∧Aside0 (Bx w.heap.size 22 g125 wc #[.slice Bb by_.length cb,.slice Aq q.length cq,.slice Az q.length cz,.slice Aq j2 cq])∧Aside0 (Rw (Kd.int .u8) Ay cy ys wc)∧Aside0 (Bx w.heap.size 3 g138 wc #[.int .i64 m0,.int .i64 (l.length : Int),.int .i64 m2]))
            case first =>
             obtain rfl|rfl|rfl : i3 = 0∨i3 = 1∨i3 = 2:=by omega
             ·have hxL : wr.cell? ⟨g138,0,none⟩ = some (.int .i64 m0):=by rw [zB wr g138 _ _ 3 (0,0) BX138.out.bx];rfl
              go_wp2;go_meet
              case rel=>exact ⟨m0,rfl,hm0r,HB,BX53,HA,HC,HY0,HX,HQ,HZ,BX125,HY,BX138⟩
             ·have hxL : wr.cell? ⟨g138,1,none⟩ = some (.int .i64 (l.length : Int)):=by rw [zB wr g138 _ _ 3 (0,0) BX138.out.bx];rfl
              go_wp2;go_meet
              case rel=>exact ⟨(l.length : Int),rfl,⟨by omega,by have:=hxl.out.2;omega⟩,HB,BX53,HA,HC,HY0,HX,HQ,HZ,BX125,HY,BX138⟩
             ·have hxL : wr.cell? ⟨g138,2,none⟩ = some (.int .i64 m2):=by rw [zB wr g138 _ _ 3 (0,0) BX138.out.bx];rfl
              go_wp2;go_meet
              case rel=>exact ⟨m2,rfl,hm2r,HB,BX53,HA,HC,HY0,HX,HQ,HZ,BX125,HY,BX138⟩
            case rest =>
             clear HB BX53 HA HC HY0 HX HQ HZ BX125 HY BX138;obtain ⟨m,rfl,hm,HB,BX53,HA,HC,HY0,HX,HQ,HZ,BX125,HY,BX138⟩:=hcut;go_wp2_with (first|((with_reducible refine zG (N:=147) rfl ?_);refine goesL_ (some 147) rfl rfl Try.func21 (by kernel_rfl) rfl _ rfl rfl ?_;(try simp only [zS,zT,zU]);have e_:=reada_call HY.out hyb.out.1 hyb.out.2 hm.out.2;refine Calls.mono e_ ?_;clear e_;rintro e w147 ⟨Au,cu,rfl,NU,hb⟩;have HU:=zA NU;clear NU;replace BX53:=zA (zM BX53.out hb);replace HA:=zA (Rw.call HA.out hb);replace HC:=zA (Rw.call HC.out hb);replace HY0:=zA (Rw.call HY0.out hb);replace HX:=zA (Rw.call HX.out hb);replace HQ:=zA (Rw.call HQ.out hb);replace HZ:=zA (Rw.call HZ.out hb);replace BX125:=zA (zM BX125.out hb);replace HY:=zA (Rw.call HY.out hb);replace BX138:=zA (zM BX138.out hb);replace HB:=zA (zJ HB.out HB.out.size hb);clear hb;refine ⟨_,rfl,?_⟩)|((with_reducible refine zG (N:=154) rfl ?_);refine goesL_ (some 154) rfl rfl Try.func22 (by kernel_rfl) rfl _ rfl rfl ?_;(try simp only [zS,zT,zU]);have e_:=readb_call HY.out hyb.out.1 hyb.out.2 hm.out.2 hm.out.1;refine Calls.mono e_ ?_;clear e_;rintro e w154 ⟨Av,cv,rfl,NV,hb⟩;have HV:=zA NV;clear NV;replace HU:=zA (Rw.call HU.out hb);replace BX53:=zA (zM BX53.out hb);replace HA:=zA (Rw.call HA.out hb);replace HC:=zA (Rw.call HC.out hb);replace HY0:=zA (Rw.call HY0.out hb);replace HX:=zA (Rw.call HX.out hb);replace HQ:=zA (Rw.call HQ.out hb);replace HZ:=zA (Rw.call HZ.out hb);replace BX125:=zA (zM BX125.out hb);replace HY:=zA (Rw.call HY.out hb);replace BX138:=zA (zM BX138.out hb);replace HB:=zA (zJ HB.out HB.out.size hb);clear hb;refine ⟨_,rfl,?_⟩)|((with_reducible refine zG (N:=160) rfl ?_);refine goesL_ (some 160) rfl rfl Try.func15 (by kernel_rfl) rfl _ rfl rfl ?_;(try simp only [zS,zT,zU]);have e_:=samea_call HU.out HV.out (readV_len _ _ hm.out.2);refine Calls.mono e_ ?_;clear e_;rintro e w160 ⟨rfl,hb⟩;replace BX53:=zA (zM BX53.out hb);replace HA:=zA (Rw.call HA.out hb);replace HC:=zA (Rw.call HC.out hb);replace HY0:=zA (Rw.call HY0.out hb);replace HX:=zA (Rw.call HX.out hb);replace HQ:=zA (Rw.call HQ.out hb);replace HZ:=zA (Rw.call HZ.out hb);replace BX125:=zA (zM BX125.out hb);replace HY:=zA (Rw.call HY.out hb);replace BX138:=zA (zM BX138.out hb);replace HB:=zA (zJ HB.out HB.out.size hb);clear hb;refine ⟨_,rfl,?_⟩));go_roundg (3 - (i3 + 1))
             case measure=>have:=HK3.out;omega
             case rel=>exact ⟨i3 + 1,by rfl,⟨rfl,hlt3⟩,HB,BX53,HA,HC,HY0,HX,HQ,HZ,BX125,HY,BX138⟩
           ·have p1:=eq_false (show ¬ (i3 : Int) < 3 by omega);have p1':=eq_false hlt3;clear hlt3;go_wp2;go_roundg (4 - (i2 + 1))
            case measure=>have:=HK2.out;omega
            case rel=>exact ⟨i2 + 1,by rfl,⟨rfl,hlt2_⟩,HB,BX53,HA,HC,HY0,HX,HQ,HZ,BX125⟩
        ·have p1:=eq_false (show ¬ (i2 : Int) < 4 by omega);have p1':=eq_false hlt2_;clear hlt2_;go_wp2;go_roundg (2 - (i + 1))
         case measure=>have:=HK.out;omega
         case rel=>exact ⟨i + 1,by rfl,⟨rfl,hlt⟩,HB,BX53,HA,HC,HY0⟩
  ·have p1:=eq_false (show ¬ (i : Int) < 2 by omega);have p1':=eq_false hlt;have ej : i = 2:=by have:=HK.out;omega
   subst ej;go_wp2;go_ret;exact ⟨rfl,HB.out⟩
end Go.Proofs.Ytooageeehallbaa.Scr
