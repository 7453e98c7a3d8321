/- Parts of the claim's proof, merged; no condition beyond what each theorem states. -/
import Derived.Test.YtooageeehallbaaG10
import Derived.Laws.IdiomCopy
import Derived.Laws.Slices
import Derived.Laws.Cover3
import Derived.Laws.ResultCell
namespace Go.Proofs.Ytooageeehallbaa.Scr
open Go.RowKit Go.Proofs.YtooageeehallbaaW.PrintWords Go.Proofs.YtooageeehallbaaW.PrintLast Go.Proofs.YtooageeehallbaaW.PrintMore Go.Proofs.Ytooageeehallbaa.QRunsCut
set_option linter.unusedVariables false
set_option linter.unusedSimpArgs false
section
variable {P : Program}
theorem run_copy3 (w : World) (dT sT ty elem : TypeId) (b o dLen dCap : Nat) (a : Addr) (sLen sCap : Nat) (cs : List Value)
 (hu : P.underlying dT = some (.slice elem)) (hs : (P.info? elem).map (·.size) = some 3) (hn : cs.length = Nat.min sLen dLen * 3)
 (hsrc : ∀ j v,cs[j]? = some v → w.cell? (a.add j) = some v) (hc : ∀ j,j < cs.length → (w.cell? ⟨b,o + j,none⟩).isSome = true) (hf : ∀ j,j < cs.length → w.frozen? ⟨b,o + j,none⟩ = false) (h1 : ∀ v ∈ cs,v.oneCell' = true) :
 (Builtin.copy_ #[dT,sT] ty #[.slice (some ⟨b,o,none⟩) dLen dCap,.slice (some a) sLen sCap]).run P w = .ok (goInt (Nat.min sLen dLen : Nat)) (w.setCells b o cs):=by
 have hl:=run_loadCells_list (P:=P) w a cs hsrc;have hst:=run_storeCells_cells (P:=P) b o cs 0 w (by simpa using hc) (by simpa using hf) h1;cases hq : P.info? elem with
|none=>simp [hq] at hs
|some i =>
  have hi : i.size = 3:=by simpa [hq] using hs
  simp [Builtin.copy_,run_underlying hu,Builtin.lenOf,Builtin.firstCells,sizeOf,typeInfo,hq,hi,← hn,hl,hst]
theorem run_copy3_none (w : World) (dT sT ty elem : TypeId) (d a : Option Addr) (dLen dCap sLen sCap : Nat) (hu : P.underlying dT = some (.slice elem)) (hs : (P.info? elem).map (·.size) = some 3) (hn : Nat.min sLen dLen = 0) :
 (Builtin.copy_ #[dT,sT] ty #[.slice d dLen dCap,.slice a sLen sCap]).run P w = .ok (goInt 0) w:=by
 cases hq : P.info? elem with
|none=>simp [hq] at hs
|some i =>
  have hl : ∀ (x : Addr),(loadCells x 0).run P w = .ok #[] w:=fun x=>by simpa using run_loadCells_list (P:=P) w x [] (by simp)
  cases d <;> cases a <;> simp [Builtin.copy_,run_underlying hu,Builtin.lenOf,Builtin.firstCells,sizeOf,typeInfo,hq,hn,storeCells,hl]
end
def copied (xs : List S35) (d s k : Nat) : List S35:=xs.take d ++ (xs.drop s).take k ++ xs.drop (d + k)
theorem inner_one {W : World} {base : Nat} {ok : Nat → Prop} {xs : List S35} {inner : List Value} (hr : Reps (Kd.M k35 W base ok) 3 xs inner) : ∀ v ∈ inner,v.oneCell' = true:=by
 intro v hv;obtain ⟨j,hj,rfl⟩:=List.getElem_of_mem hv;have hl:=hr.1;have hq : j / 3 < xs.length:=by omega
 have h:=hr.2 (j / 3) _ (List.getElem?_eq_getElem hq);have h3:=k35_openM h;have e : inner[j] = ((inner.drop (j / 3 * 3)).take 3)[j % 3]'(by simp only [List.length_take,List.length_drop];omega):=by
  rw [List.getElem_take,List.getElem_drop];congr 1
  omega
 rw [e];have : ∀ (l : List Value) (x : S35),l = [.int .i32 x.f0,.int .u16 x.f1,.int .u8 x.f2] → ∀ k (hk : k < l.length),l[k].oneCell' = true:=by
  intro l x hl k hk;subst hl;match k,hk with
 |0,_=>rfl
 |1,_=>rfl
 |2,_=>rfl
 |k + 3,hk=>exact absurd hk (by simp)
 exact this _ _ h3 _ _
theorem row_copy_run {W : World} {base : Nat} {ok : Nat → Prop} {g n cap : Nat} {xs : List S35} (HR : Kd.R k35 35 W base ok (.slice (some ⟨g,0,none⟩) n cap) xs) {d s m m' c c' : Nat} {A A' : Option Addr} (hA : 0 < m → A = some ⟨g,d * 3,none⟩) (hA' : 0 < m' → A' = some ⟨g,s * 3,none⟩) (h1 : d + m ≤ n) (h2 : s + m' ≤ n) (ty : TypeId) :
 ∃ w1,(Builtin.copy_ #[24,24] ty #[.slice A m c,.slice A' m' c']).run Try.prog W = .ok (goInt ((Nat.min m' m : Nat) : Int)) w1∧W.grownBy w1 (some g)∧Kd.R k35 35 w1 base ok (.slice (some ⟨g,0,none⟩) n cap) (copied xs d s (Nat.min m' m)):=by
 have hs3 : (Try.prog.info? 35).map (·.size) = some 3:=one35;rcases Nat.eq_zero_or_pos (Nat.min m' m) with h0|hp
 ·refine ⟨W,?_,World.grownBy.refl W _,?_⟩
  ·rw [h0];exact run_copy3_none W 24 24 ty 35 A A' m c m' c' Try.underlying24 hs3 h0
  ·rw [h0];unfold copied;rw [List.take_zero,List.append_nil,Nat.add_zero,List.take_append_drop];exact HR
 ·have hm : 0 < m:=Nat.lt_of_lt_of_le hp (Nat.min_le_right _ _);have hm' : 0 < m':=Nat.lt_of_lt_of_le hp (Nat.min_le_left _ _);have hk1 : Nat.min m' m ≤ m:=Nat.min_le_right _ _;have hk2 : Nat.min m' m ≤ m':=Nat.min_le_left _ _;cases hA hm;cases hA' hm';generalize hk : Nat.min m' m = k at hp hk1 hk2 ⊢;have HR':=HR;obtain ⟨hok,inner,ho,hr⟩:=HR;obtain ⟨hl,hcase⟩:=ho;rcases hcase with ⟨hv0,_⟩|⟨g',cap',cur,hv0,hb,hh,hnc,hcm,hcs,htake⟩
  ·cases hv0
  ·injection hv0 with e1 e2 e3
   injection e1 with e1
   injection e1 with e1 _ _
   subst e1 e2 e3;have hsz : k35.sz = 3:=rfl;rw [hsz] at hl hcs htake;have hr' : Reps (Kd.M k35 W base (fun k=>ok k∧some k ≠ some g)) 3 xs inner:=hr;have hcl : ((inner.drop (s * 3)).take (k * 3)).length = k * 3:=by
    simp only [List.length_take,List.length_drop];omega
   have hsrc : ∀ j v,((inner.drop (s * 3)).take (k * 3))[j]? = some v → W.cell? ((⟨g,s * 3,none⟩ : Addr).add j) = some v:=by
    intro j v hv;rw [List.getElem?_take] at hv;split at hv
    ·rename_i hj
     rw [List.getElem?_drop,← htake,List.getElem?_take,if_pos (by omega)] at hv;rw [add_at,zB W g _ cur 35 (0,0) hh,← hv,Array.getElem?_toList]
    ·cases hv
   have hrun:=run_copy3 (P:=Try.prog) W 24 24 ty 35 g (d * 3) m c ⟨g,s * 3,none⟩ m' c' ((inner.drop (s * 3)).take (k * 3)) Try.underlying24 hs3 (by rw [hcl,hk]) hsrc
    (fun j hj=>by rw [zB W g _ cur 35 (0,0) hh];rw [hcl] at hj;simp;omega) (fun j _=>blk_frozen hh _)
    (fun v hv=>inner_one hr' v (List.mem_of_mem_drop (List.mem_of_mem_take hv)))
   have hw:=R_window HR' (d:=d) (ys:=(xs.drop s).take k) (vs:=(inner.drop (s * 3)).take (k * 3)) (Kd.reps_take (Kd.reps_drop hr') (by rw [List.length_drop];omega)) (by rw [List.length_take,List.length_drop];omega);have hyl : ((xs.drop s).take k).length = k:=by rw [List.length_take,List.length_drop];omega
   rw [hyl] at hw;rw [hk] at hrun;exact ⟨_,hrun,hw.2,hw.1⟩
theorem row_copyw {ops : Array Oper} {rest : List Oper} {Q : Exit → Act → World → Prop} {a : Act} {o : Oper} {W : World} {base : Nat} {ok : Nat → Prop} {g n cap : Nat} {xs : List S35} (HR : Kd.R k35 35 W base ok (.slice (some ⟨g,0,none⟩) n cap) xs) {d s m m' c c' : Nat} {A A' : Option Addr} (hA : 0 < m → A = some ⟨g,d * 3,none⟩) (hA' : 0 < m' → A' = some ⟨g,s * 3,none⟩) (h1 : d + m ≤ n) (h2 : s + m' ≤ n)
 (hgd : o.guard = none) {x y : Operand} (ho : o.op = .call { callee:=.builtin .copy,args:=#[x,y],argTypes:=#[24,24] }) (hx : a.eval x = .slice A m c) (hy : a.eval y = .slice A' m' c')
 (h : ∀ w1,W.grownBy w1 (some g) → Kd.R k35 35 w1 base ok (.slice (some ⟨g,0,none⟩) n cap) (copied xs d s (Nat.min m' m)) → wpList Try.prog ops Q rest (a.put o.dst (.int .i64 ((Nat.min m' m : Nat) : Int))) w1) : wpList Try.prog ops Q (o :: rest) a W:=by
 obtain ⟨w1,hr,hg,hR⟩:=row_copy_run HR (c:=c) (c':=c') hA hA' h1 h2 o.type;refine wpList_plain hgd fun K hK=>?_
 unfold Oper.wp execOp;simp only [ho,resolve,invoke,builtin,Sem.run_bind,Sem.run_pure,Result.andThen_ok,zS,zT,zU,hx,hy,hr];exact hK _ _ (h w1 hg hR)
end Go.Proofs.Ytooageeehallbaa.Scr
namespace Go.Proofs.Ytooageeehallbaa.Scr
open Go.RowKit Go.Proofs.YtooageeehallbaaW.PrintWords Go.Proofs.YtooageeehallbaaW.PrintLast Go.Proofs.YtooageeehallbaaW.PrintMore Go.Proofs.Ytooageeehallbaa.QRunsCut
set_option linter.unusedVariables false
set_option linter.unusedSimpArgs false
theorem size35 (W : World) : (sizeOf (Try.prog.elem 24)).run Try.prog W = .ok 3 W:=by
 have h1:=one35;have hel : Try.prog.elem 24 = 35:=by simp [Program.elem,Try.underlying24]
 rw [hel];cases hq : Try.prog.info? 35 with
|none=>simp [hq] at h1
|some i =>
  have hi : i.size = 3:=by simpa [hq] using h1
  simp [sizeOf,typeInfo,hq,hi]
theorem und24 : Try.prog.underlying 24 = some (.slice (Try.prog.elem 24)):=by
 have hel : Try.prog.elem 24 = 35:=by simp [Program.elem,Try.underlying24]
 rw [hel];exact Try.underlying24
def wbase (A : Option Addr) (c lo : Nat) : Option Addr:=if c = lo then A else A.map (·.add (lo * 3))
theorem wbase_at {g d c lo : Nat} (h : lo < c) : wbase (some ⟨g,d * 3,none⟩) c lo = some ⟨g,(d + lo) * 3,none⟩:=by
 unfold wbase;rw [if_neg (by omega),Option.map_some,add_at,Nat.add_mul]
theorem wbase_zero {g c lo : Nat} (h : lo < c) : wbase (some ⟨g,0,none⟩) c lo = some ⟨g,lo * 3,none⟩:=by
 have:=wbase_at (g:=g) (d:=0) h;rwa [Nat.zero_mul,Nat.zero_add] at this
theorem win_lh (A : Option Addr) (n c : Nat) {lo hi : Nat} (h1 : lo ≤ hi) (h2 : hi ≤ c) (W : World) : (Instr.slice 24 (.slice A n c) (some (.int .i64 (lo : Int))) (some (.int .i64 (hi : Int))) none).run Try.prog W = .ok (.slice (wbase A c lo) (hi - lo) (c - lo)) W:=by
 rw [run_slice_lh W 24 A n c und24 .i64 .i64 (lo : Int) (hi : Int) (by omega) (by omega) (by omega),size35];rfl
theorem win_l (A : Option Addr) (n c : Nat) {lo : Nat} (h1 : lo ≤ n) (W : World) : (Instr.slice 24 (.slice A n c) (some (.int .i64 (lo : Int))) none none).run Try.prog W = .ok (.slice (wbase A c lo) (n - lo) (c - lo)) W:=by
 rw [run_slice_l W 24 A n c und24 .i64 (lo : Int) (by omega) (by omega),size35];rfl
end Go.Proofs.Ytooageeehallbaa.Scr
namespace Go.Proofs.Ytooageeehallbaa.Scr
open Go.RowKit Go.Proofs.YtooageeehallbaaW.PrintWords Go.Proofs.YtooageeehallbaaW.PrintLast Go.Proofs.YtooageeehallbaaW.PrintMore Go.Proofs.Ytooageeehallbaa.QRunsCut
attribute [local go_sem] max2_int min2_int max_two min_two max_three min_three max_four min_four   -- for this text's walks alone
set_option linter.unusedVariables false
set_option linter.unusedSimpArgs false
theorem wrap64_nat {n : Int} (h : 0 ≤ n∧n ≤ 1000000000) : wrap64 n = n:=by unfold wrap64;omega
theorem size_ok {n : Int} (h : 1 ≤ n∧n ≤ 1000) : grid_size.f n = some true:=by
 unfold grid_size.f;simp [h.1,h.2]
theorem rows_ok {xs : List S35} {R C : Nat} (h : xs.length = R * C) (hR : 1 ≤ R∧R ≤ 1000) (hC : 1 ≤ C∧C ≤ 1000) : grid_rows.f xs (C : Int) = some (R : Int):=by
 have hm : ((xs.length : Nat) : Int) % (C : Int) = 0:=by
  rw [h,Int.natCast_mul];exact Int.mul_emod_left _ _
 have hq : ((xs.length : Nat) : Int) / (C : Int) = (R : Int):=by
  rw [h,Int.natCast_mul];exact Int.mul_ediv_cancel _ (by omega)
 unfold grid_rows.f;rw [size_ok (by omega),zX,if_pos rfl,if_neg (by omega),if_pos hm,hq,wrap64_nat (by omega),size_ok (by omega),zX,if_pos rfl]
theorem within_ok {xs : List S35} {R C T B : Nat} (h : xs.length = R * C) (hR : 1 ≤ R∧R ≤ 1000) (hC : 1 ≤ C∧C ≤ 1000) (hT : T ≤ B∧B < R) : grid_within.f xs (C : Int) (T : Int) (B : Int) = some true:=by
 unfold grid_within.f;rw [rows_ok h hR hC,if_pos (by omega),if_pos (by omega),zX,zC (by omega)]
theorem near_ok {N : Nat} (h : N ≤ 1000) : grid_near.f (N : Int) = some (N : Int):=by
 unfold grid_near.f;unfold mn mx;congr 1
 split <;> split <;> omega
theorem below_ {W w' : World} (h : Drawn0 W w'∨Below W.heap.size W w') : Below W.heap.size W w':=h.elim (fun h=>h.below) id
def upW (xs : List S35) (a len k lk : Nat) : List S35:=filled (copied xs a (a + k) lk) (a + lk) k
def upL (xs : List S35) (C T B N : Nat) : List S35:=upW xs (T * C) ((B + 1) * C - T * C) (min (N * C) ((B + 1) * C - T * C)) ((B + 1) * C - T * C - min (N * C) ((B + 1) * C - T * C))
theorem clone_call {A : Option Addr} {c : Nat} {xs : List S35} {W : World} (h : Kd.C k35 W A xs.length xs) (hp : 0 < xs.length) (hx : xs.length ≤ 1000000) (hlc : xs.length ≤ c) :
 Calls Try.prog 39 #[.slice A xs.length c] W fun e w'=>∃ gt capt,e = .returned (.slice (some ⟨gt,0,none⟩) xs.length capt)∧(W.heap.size ≤ gt∧xs.length ≤ capt)∧Kd.R k35 35 w' W.heap.size (fun _=>True) (.slice (some ⟨gt,0,none⟩) xs.length capt) xs∧Below W.heap.size W w':=by
 have hf : api_Cell.f xs = some xs:=by
  unfold api_Cell.f;rw [zX,if_pos (by rw [List.length_nil];omega),List.nil_append]
 refine (api_Cell.calls A c xs xs W h hlc hf).mono ?_;rintro e w' ⟨v,rfl,hR,hb⟩
 obtain ⟨gt,capt,rfl,gb_,gl_,cl_⟩:=Kd.R_form hR hp;obtain ⟨x_,_,_,hcap,_⟩:=Row.reads (R_row hR (P:=fun _=>True) trivial);have hn:=(Row.reads (R_row hR (P:=fun x=>x = xs) rfl));obtain ⟨y_,rfl,_,hcap,_⟩:=hn;exact ⟨gt,capt,rfl,⟨gb_,hcap⟩,hR,hb⟩
set_option maxHeartbeats 4000000 in
set_option maxRecDepth 100000 in
theorem gup_call {c : Sl} {xs : List S35} {W : World} {ok : Nat → Prop} (hc : Row k35 c (fun x=>x = xs) W ok) {R C T B N : Nat} (h : xs.length = R * C) (hR0 : 1 ≤ R∧R ≤ 1000) (hC0 : 1 ≤ C∧C ≤ 1000) (hT0 : T ≤ B∧B < R) (hN0 : N ≤ 1000) :
 Calls Try.prog 13 #[.slice c.A c.n c.c,.int .i64 (C : Int),.int .i64 (T : Int),.int .i64 (B : Int),.int .i64 (N : Int)] W fun e w'=>∃ v : Sl,e = .returned (.slice v.A v.n v.c)∧Row k35 v (fun x=>x = upL xs C T B N) w' (fun k=>W.heap.size ≤ k)∧Below W.heap.size W w':=by
 have HB:=zA (zE W.heap.size W);obtain ⟨x_,hx_,hn,hlc0,hC_⟩:=Row.reads hc;subst hx_;rw [hn];have HL:=zA hC_;have hlc:=zA hlc0;have hxs:=zA h;have hR:=zA hR0;have hC:=zA hC0;have hTB:=zA hT0;have hN:=zA hN0;have hRC : R * C ≤ 1000 * 1000:=Nat.mul_le_mul hR0.2 hC0.2;have hTC : T * C ≤ 1000 * 1000:=Nat.mul_le_mul (by omega) hC0.2;have hBC : (B + 1) * C ≤ R * C:=Nat.mul_le_mul (by omega) (Nat.le_refl _);have hNC : N * C ≤ 1000 * 1000:=Nat.mul_le_mul hN0 hC0.2;have hlt : T * C + 1 * C ≤ (B + 1) * C:=by rw [← Nat.add_mul];exact Nat.mul_le_mul (by omega) (Nat.le_refl _)
 have hpos:=zA (show 0 < x_.length by omega);have hmax:=zA (show x_.length ≤ 1000000 by omega);unfold upL;obtain ⟨a,ha⟩ : ∃ a,a = T * C:=⟨_,rfl⟩;obtain ⟨hi,hhi⟩ : ∃ hi,hi = (B + 1) * C:=⟨_,rfl⟩;obtain ⟨nc,hnc⟩ : ∃ nc,nc = N * C:=⟨_,rfl⟩;rw [← ha,← hhi,← hnc];rw [← ha] at hTC hlt;rw [← hhi] at hBC hlt;rw [← hnc] at hNC;obtain ⟨len,hle⟩ : ∃ len,len = hi - a:=⟨_,rfl⟩;obtain ⟨k,hk⟩ : ∃ k,k = min nc len:=⟨_,rfl⟩;obtain ⟨lk,hlk⟩ : ∃ lk,lk = len - k:=⟨_,rfl⟩;obtain ⟨b1,hb1⟩ : ∃ b1,b1 = B + 1:=⟨_,rfl⟩;rw [← hle,← hk,← hlk];have hkl : k ≤ len:=by omega
 have e6 : (if len < nc then (len : Int) else (nc : Int)) = (k : Int):=by split <;> omega
 have e5 : wrap64 ((len : Int) - (k : Int)) = (lk : Int):=by rw [show (len : Int) - (k : Int) = (lk : Int) by omega,wrap64_nat (by omega)]
 have e2 : wrap64 ((B : Int) + 1) = (b1 : Int):=by rw [show (B : Int) + 1 = (b1 : Int) by omega,wrap64_nat (by omega)]
 have b0:=zA (show hi ≤ x_.length by omega);have b2:=zA (show a < hi∧len = hi - a∧k ≤ len∧lk = len - k∧hi ≤ 1000000 by omega);have e1 : wrap64 ((T : Int) * (C : Int)) = (a : Int):=by rw [ha,Int.natCast_mul,wrap64_nat (by rw [← Int.natCast_mul];omega)]
 have e3 : wrap64 ((b1 : Int) * (C : Int)) = (hi : Int):=by rw [hhi,hb1,Int.natCast_mul,wrap64_nat (by rw [← Int.natCast_mul];omega)]
 have e4 : wrap64 ((N : Int) * (C : Int)) = (nc : Int):=by rw [hnc,Int.natCast_mul,wrap64_nat (by rw [← Int.natCast_mul];omega)]
 clear h hc hC_ hlc0 hR0 hC0 hT0 hN0 hRC hTC hBC hNC hlt hkl ha hhi hnc hb1 hlk hk hle;have hcap:=zA trivial;go_enter Try.func13,Try.ntmps13
 go_upto_region 3 with (first|((with_reducible refine zG (N:=15) rfl ?_);refine goesL_ (some 15) rfl rfl Try.func39 (by kernel_rfl) rfl _ rfl rfl ?_;(try simp only [zS,zT,zU]);have e_:=clone_call (A:=c.A) (c:=c.c) HL.out hpos.out hmax.out hlc.out;refine Calls.mono e_ ?_;clear e_;rintro e w15 ⟨gt,capt,rfl,hb0,ho,hb⟩;replace hcap:=zA (hb0.2);have HT:=zA (Kd.R_lower ho HB.out.size);replace HL:=zA (Kd.C_below HL.out hb);replace HB:=zA (zJ HB.out HB.out.size hb);clear hb ho hb0;refine ⟨_,rfl,?_⟩)|((with_reducible refine zG (N:=20) rfl ?_);refine goesL_ (some 20) rfl rfl Try.func40 (by kernel_rfl) rfl _ rfl rfl ?_;(try simp only [zS,zT,zU]);have e_:=grid_within.calls c.A c.c x_ (C : Int) (T : Int) (B : Int) true _ HL.out hlc.out (within_ok hxs.out hR.out hC.out hTB.out);refine Calls.mono e_ ?_;clear e_;rintro e w20 ⟨rfl,hb⟩;replace hb:=below_ (by first|exact .inl hb|exact .inr hb);replace HT:=zA (Kd.R_below HT.out hb);(try replace HL:=zA (Kd.C_below HL.out hb));replace HB:=zA (zJ HB.out HB.out.size hb);clear hb;refine ⟨_,rfl,?_⟩)|((with_reducible refine zG (N:=31) rfl ?_);refine goesL_ (some 31) rfl rfl Try.func41 (by kernel_rfl) rfl _ rfl rfl ?_;(try simp only [zS,zT,zU]);refine Calls.mono (grid_near.calls (N : Int) (N : Int) _ (near_ok hN.out)) ?_;rintro e w31 ⟨rfl,hb⟩;replace hb:=below_ (by first|exact .inl hb|exact .inr hb);replace HT:=zA (Kd.R_below HT.out hb);(try replace HL:=zA (Kd.C_below HL.out hb));replace HB:=zA (zJ HB.out HB.out.size hb);clear hb;refine ⟨_,rfl,?_⟩)|((with_reducible refine zG (N:=41) rfl ?_);refine row_copyw HT.out (d:=a) (s:=a + k) (m:=len) (m':=lk) (fun _=>rfl) hA2'.out (by have:=b2.out;have:=b0.out;omega) (by have:=b2.out;have:=b0.out;omega) rfl rfl rfl rfl ?_;intro w41 hg ho;replace HB:=zA (hb_own HB.out HT.out hg);replace HT:=zA ho;clear hg ho)|((with_reducible refine zG (N:=48) rfl ?_);refine goesL_ (some 48) rfl rfl Try.func42 (by kernel_rfl) rfl _ rfl rfl ?_;(try simp only [zS,zT,zU]);refine Calls.mono (fill_call HT.out (lo:=a + lk) (m:=k) hA3'.out (by have:=b2.out;have:=b0.out;omega)) ?_;rintro e w48 ⟨rfl,hg,ho⟩;replace HB:=zA (hb_own HB.out HT.out hg);replace HT:=zA ho;clear hg ho;refine ⟨_,rfl,?_⟩))
 have q1:=fun W=>win_lh (some ⟨gt,0,none⟩) x_.length capt (lo:=a) (hi:=hi) (by have:=b2.out;omega) (by have:=b0.out;have:=hcap.out;omega) W
 have q1b : hi - a = len:=by have:=b2.out;omega
 rw [wbase_zero (by have:=b2.out;have:=b0.out;have:=hcap.out;omega),q1b] at q1;obtain ⟨c1,hc1⟩ : ∃ c1,c1 = capt - a:=⟨_,rfl⟩;rw [← hc1] at q1;have b3:=zA (show len ≤ c1 by have:=b2.out;have:=b0.out;have:=hcap.out;omega);clear hc1 q1b;have q2:=fun W=>win_l (some ⟨gt,a * 3,none⟩) len c1 (lo:=k) (by have:=b2.out;omega) W
 obtain ⟨A2,hA2⟩ : ∃ A2,A2 = wbase (some ⟨gt,a * 3,none⟩) c1 k:=⟨_,rfl⟩;have q2b : len - k = lk:=by have:=b2.out;omega
 rw [← hA2,q2b] at q2;have hA2':=zA (show 0 < lk → A2 = some ⟨gt,(a + k) * 3,none⟩ from fun h0=>by rw [hA2,wbase_at (by have:=b2.out;have:=b3.out;omega)]);clear hA2 q2b;have q3:=fun W=>win_l (some ⟨gt,a * 3,none⟩) len c1 (lo:=lk) (by have:=b2.out;omega) W
 obtain ⟨A3,hA3⟩ : ∃ A3,A3 = wbase (some ⟨gt,a * 3,none⟩) c1 lk:=⟨_,rfl⟩;have q3b : len - lk = k:=by have:=b2.out;omega
 rw [← hA3,q3b] at q3;have hA3':=zA (show 0 < k → A3 = some ⟨gt,(a + lk) * 3,none⟩ from fun h0=>by rw [hA3,wbase_at (by have:=b2.out;have:=b3.out;omega)]);clear hA3 q3b;go_wp2_with (first|((with_reducible refine zG (N:=15) rfl ?_);refine goesL_ (some 15) rfl rfl Try.func39 (by kernel_rfl) rfl _ rfl rfl ?_;(try simp only [zS,zT,zU]);have e_:=clone_call (A:=c.A) (c:=c.c) HL.out hpos.out hmax.out hlc.out;refine Calls.mono e_ ?_;clear e_;rintro e w15 ⟨gt,capt,rfl,hb0,ho,hb⟩;replace hcap:=zA (hb0.2);have HT:=zA (Kd.R_lower ho HB.out.size);replace HL:=zA (Kd.C_below HL.out hb);replace HB:=zA (zJ HB.out HB.out.size hb);clear hb ho hb0;refine ⟨_,rfl,?_⟩)|((with_reducible refine zG (N:=20) rfl ?_);refine goesL_ (some 20) rfl rfl Try.func40 (by kernel_rfl) rfl _ rfl rfl ?_;(try simp only [zS,zT,zU]);have e_:=grid_within.calls c.A c.c x_ (C : Int) (T : Int) (B : Int) true _ HL.out hlc.out (within_ok hxs.out hR.out hC.out hTB.out);refine Calls.mono e_ ?_;clear e_;rintro e w20 ⟨rfl,hb⟩;replace hb:=below_ (by first|exact .inl hb|exact .inr hb);replace HT:=zA (Kd.R_below HT.out hb);(try replace HL:=zA (Kd.C_below HL.out hb));replace HB:=zA (zJ HB.out HB.out.size hb);clear hb;refine ⟨_,rfl,?_⟩)|((with_reducible refine zG (N:=31) rfl ?_);refine goesL_ (some 31) rfl rfl Try.func41 (by kernel_rfl) rfl _ rfl rfl ?_;(try simp only [zS,zT,zU]);refine Calls.mono (grid_near.calls (N : Int) (N : Int) _ (near_ok hN.out)) ?_;rintro e w31 ⟨rfl,hb⟩;replace hb:=below_ (by first|exact .inl hb|exact .inr hb);replace HT:=zA (Kd.R_below HT.out hb);(try replace HL:=zA (Kd.C_below HL.out hb));replace HB:=zA (zJ HB.out HB.out.size hb);clear hb;refine ⟨_,rfl,?_⟩)|((with_reducible refine zG (N:=41) rfl ?_);refine row_copyw HT.out (d:=a) (s:=a + k) (m:=len) (m':=lk) (fun _=>rfl) hA2'.out (by have:=b2.out;have:=b0.out;omega) (by have:=b2.out;have:=b0.out;omega) rfl rfl rfl rfl ?_;intro w41 hg ho;replace HB:=zA (hb_own HB.out HT.out hg);replace HT:=zA ho;clear hg ho)|((with_reducible refine zG (N:=48) rfl ?_);refine goesL_ (some 48) rfl rfl Try.func42 (by kernel_rfl) rfl _ rfl rfl ?_;(try simp only [zS,zT,zU]);refine Calls.mono (fill_call HT.out (lo:=a + lk) (m:=k) hA3'.out (by have:=b2.out;have:=b0.out;omega)) ?_;rintro e w48 ⟨rfl,hg,ho⟩;replace HB:=zA (hb_own HB.out HT.out hg);replace HT:=zA ho;clear hg ho;refine ⟨_,rfl,?_⟩));have em : (Nat.min lk len) = lk:=by
  have:=b2.out;first|exact Nat.min_eq_left (by omega)|exact Nat.min_eq_right (by omega)
 have HT2:=HT.out;rw [em] at HT2;go_ret;obtain ⟨v,hv,hr⟩:=Row.made (P:=fun x=>x = upW x_ a len k lk) HT2 rfl;exact ⟨v,by rw [← hv];rfl,hr,HB.out⟩
end Go.Proofs.Ytooageeehallbaa.Scr
namespace Go.Proofs.Ytooageeehallbaa.Scr
open Go.RowKit Go.Proofs.YtooageeehallbaaW.PrintWords Go.Proofs.YtooageeehallbaaW.PrintLast Go.Proofs.YtooageeehallbaaW.PrintMore Go.Proofs.Ytooageeehallbaa.QRunsCut
attribute [local go_sem] max2_int min2_int max_two min_two max_three min_three max_four min_four   -- for this text's walks alone
set_option linter.unusedVariables false
set_option linter.unusedSimpArgs false
theorem filled_all {z : S35} {m : Nat} : filled (List.replicate m z) 0 m = List.replicate m blk:=by
 unfold filled;rw [List.take_zero,List.nil_append,Nat.zero_add,List.drop_replicate,Nat.sub_self,List.replicate_zero,List.append_nil]
set_option maxHeartbeats 4000000 in
set_option maxRecDepth 100000 in
theorem gblank_call (W : World) {R C : Nat} (hR : 1 ≤ R∧R ≤ 1000) (hC : 1 ≤ C∧C ≤ 1000) :
 Calls Try.prog 34 #[.int .i64 (R : Int),.int .i64 (C : Int)] W fun e w'=>∃ gt capt,e = .returned (.slice (some ⟨gt,0,none⟩) (R * C) capt)∧W.heap.size ≤ gt∧Kd.R k35 35 w' W.heap.size (fun _=>True) (.slice (some ⟨gt,0,none⟩) (R * C) capt) (List.replicate (R * C) blk)∧Below W.heap.size W w':=by
 have HB:=zA (zE W.heap.size W);have h1 : R * C ≤ 1000 * 1000:=Nat.mul_le_mul hR.2 hC.2;have h2 : 1 * 1 ≤ R * C:=Nat.mul_le_mul hR.1 hC.1;have hR1:=zA (show (1 : Int) ≤ (R : Int)∧(R : Int) ≤ 1000 by omega);have hC1:=zA (show (1 : Int) ≤ (C : Int)∧(C : Int) ≤ 1000 by omega);obtain ⟨m,hm⟩ : ∃ m,m = R * C:=⟨_,rfl⟩;rw [← hm] at h1 h2;have e1 : wrap64 ((R : Int) * (C : Int)) = (m : Int):=by rw [hm,Int.natCast_mul,wrap64_nat (by rw [← Int.natCast_mul];omega)]
 rw [← hm];have hmm:=zA (And.intro h1 h2);clear h1 h2 hR hC hm;go_enter Try.func34,Try.ntmps34
 go_upto_region 3 with (first|((with_reducible refine zG (N:=7) rfl ?_);refine goesL_ (some 7) rfl rfl Try.func43 (by kernel_rfl) rfl _ rfl rfl ?_;(try simp only [zS,zT,zU]);refine Calls.mono (grid_size.calls (R : Int) true _ (size_ok hR1.out)) ?_;rintro e w7 ⟨rfl,hb⟩;replace HB:=zA (zJ HB.out HB.out.size hb.below);clear hb;refine ⟨_,rfl,?_⟩)|((with_reducible refine zG (N:=17) rfl ?_);refine Kd.R_make k35 _ 35 rfl (N:=17) rfl 24 _ _ rfl _ rfl rfl Try.underlying24 (.agg #[(.int .i32 0),(.int .u16 0),(.int .u8 0)]) 8 info35 rfl (by decide) (by omega) z35 (ok:=fun _=>True) (okp:=fun _=>True) (k35_mkM _ _ _ z35) (fun _ hk=>hk) trivial (by omega) (by have:=hmm.out;omega) (zE _ _) (Nat.le_refl _) ?_;intro v17 w17 ho hb hg_ hnew_;clear hg_ hnew_;(try rw [e1] at ho);rw [Int.toNat_natCast] at ho;have hfm:=Kd.R_form ho (by rw [List.length_replicate];have:=hmm.out;omega);rw [List.length_replicate] at hfm;obtain ⟨gt,capt,rfl,gb_,gl_,cl_⟩:=hfm;clear gl_ cl_;have hgt:=zA (Nat.le_trans HB.out.size gb_);have HT:=zA (Kd.R_lower ho HB.out.size);replace HB:=zA (zJ HB.out HB.out.size hb);clear hb ho gb_)|((with_reducible refine zG (N:=19) rfl ?_);refine goesL_ (some 19) rfl rfl Try.func42 (by kernel_rfl) rfl _ rfl rfl ?_;(try simp only [zS,zT,zU]);refine Calls.mono (fill_call HT.out (lo:=0) (m:=m) (fun _=>rfl) (by omega)) ?_;rintro e w19 ⟨rfl,hg,ho⟩;replace HB:=zA (hb_own HB.out HT.out hg);replace HT:=zA ho;clear hg ho;refine ⟨_,rfl,?_⟩))
 refine Calls.mono (grid_size.calls (C : Int) true _ (size_ok hC1.out)) ?_;rintro e w11 ⟨rfl,hb⟩
 replace HB:=zA (zJ HB.out HB.out.size hb.below);clear hb;go_wp2_with (first|((with_reducible refine zG (N:=7) rfl ?_);refine goesL_ (some 7) rfl rfl Try.func43 (by kernel_rfl) rfl _ rfl rfl ?_;(try simp only [zS,zT,zU]);refine Calls.mono (grid_size.calls (R : Int) true _ (size_ok hR1.out)) ?_;rintro e w7 ⟨rfl,hb⟩;replace HB:=zA (zJ HB.out HB.out.size hb.below);clear hb;refine ⟨_,rfl,?_⟩)|((with_reducible refine zG (N:=17) rfl ?_);refine Kd.R_make k35 _ 35 rfl (N:=17) rfl 24 _ _ rfl _ rfl rfl Try.underlying24 (.agg #[(.int .i32 0),(.int .u16 0),(.int .u8 0)]) 8 info35 rfl (by decide) (by omega) z35 (ok:=fun _=>True) (okp:=fun _=>True) (k35_mkM _ _ _ z35) (fun _ hk=>hk) trivial (by omega) (by have:=hmm.out;omega) (zE _ _) (Nat.le_refl _) ?_;intro v17 w17 ho hb hg_ hnew_;clear hg_ hnew_;(try rw [e1] at ho);rw [Int.toNat_natCast] at ho;have hfm:=Kd.R_form ho (by rw [List.length_replicate];have:=hmm.out;omega);rw [List.length_replicate] at hfm;obtain ⟨gt,capt,rfl,gb_,gl_,cl_⟩:=hfm;clear gl_ cl_;have hgt:=zA (Nat.le_trans HB.out.size gb_);have HT:=zA (Kd.R_lower ho HB.out.size);replace HB:=zA (zJ HB.out HB.out.size hb);clear hb ho gb_)|((with_reducible refine zG (N:=19) rfl ?_);refine goesL_ (some 19) rfl rfl Try.func42 (by kernel_rfl) rfl _ rfl rfl ?_;(try simp only [zS,zT,zU]);refine Calls.mono (fill_call HT.out (lo:=0) (m:=m) (fun _=>rfl) (by omega)) ?_;rintro e w19 ⟨rfl,hg,ho⟩;replace HB:=zA (hb_own HB.out HT.out hg);replace HT:=zA ho;clear hg ho;refine ⟨_,rfl,?_⟩));have HT2:=HT.out;rw [filled_all] at HT2;go_ret;exact ⟨gt,capt,rfl,hgt.out,HT2,HB.out⟩
theorem row_r {P : Program} {ops : Array Oper} {rest : List Oper} {Q : Exit → Act → World → Prop} {a : Act} {o : Oper} {W : World} {base : Nat} {ok : Nat → Prop} {g n cap : Nat} {xs : List S35} (HR : Kd.R k35 35 W base ok (.slice (some ⟨g,0,none⟩) n cap) xs) {i : Int} (h0 : 0 ≤ i) (h1 : i < n) (hgd : o.guard = none) (hd : o.dst = none) {x y : Operand} (ho : o.op = .store 21 x y) (hx : a.eval x = .pointer (some ⟨g,i.toNat * 3,none⟩))
 {h : Int} (hy : a.eval y = .int .i32 h) (hi : (P.info? 21).map (·.size) = some 1)
 (K : ∀ w1,W.grownBy w1 (some g) → Kd.R k35 35 w1 base ok (.slice (some ⟨g,0,none⟩) n cap) (xs.set i.toNat ⟨h,(rd_T35 xs i).f1,(rd_T35 xs i).f2⟩) → wpList P ops Q rest a w1) : wpList P ops Q (o :: rest) a W:=by
 obtain ⟨c,hcl,hM,hcc,hfr⟩:=Kd.R_elem HR z35 i h0 h1;obtain rfl:=k35_openM hM;have hcell:=hcc 0 _ rfl;have hfro:=hfr 0;rw [Nat.add_zero] at hcell hfro;have hst : (store (⟨g,i.toNat * 3,none⟩ : Addr) (.int .i32 h)).run P W = .ok () (W.setCell ⟨g,i.toNat * 3,none⟩ (.int .i32 h)):=by
  rw [run_store P W _ _ _ rfl];have e1 : W.cell? ⟨g,i.toNat * 3,none⟩ = _:=hcell;have e2 : W.frozen? ⟨g,i.toNat * 3,none⟩ = false:=hfro;rw [e1,e2];rfl
 have hadd : (⟨g,i.toNat * 3,none⟩ : Addr).add 0 = ⟨g,i.toNat * 3,none⟩:=by unfold Addr.add;split <;> simp_all
 have hp:=Kd.R_seg HR i h0 h1 (seg:=[.int .i32 h]) (j:=0) hcl hcc (show 0 + 1 ≤ 3 from by decide) (x':=(⟨h,(rd_T35 xs i).f1,(rd_T35 xs i).f2⟩ : S35)) (okp:=fun k=>ok k∧k ≠ g) (k35_mkM _ _ _ (⟨h,(rd_T35 xs i).f1,(rd_T35 xs i).f2⟩ : S35)) (fun _ hk=>hk);have hk:=K _ hp.2 hp.1;cases hq : P.info? 21 with
|none=>simp [hq] at hi
|some i5 =>
  have hsz : i5.size = 1:=by simpa [hq] using hi
  have hsv : (storeVar 21 (⟨g,i.toNat * 3,none⟩ : Addr) (.int .i32 h)).run P W = .ok () (W.setCell ⟨g,i.toNat * 3,none⟩ (.int .i32 h)):=by
   simp [storeVar,sizeOf,typeInfo,hq,hsz,Value.cells,storeCells,hadd,hst]
  refine wpList_plain hgd fun K2 hK2=>?_
  unfold Oper.wp execOp;simp only [ho,hx,hy,Instr.storeAt,Instr.sureAddr,Sem.run_bind,Sem.run_pure,Result.andThen_ok,hsv];show K2 (a.put o.dst undef) _
  have hput : a.put o.dst undef = a:=by rw [hd];rfl
  rw [hput];exact hK2 _ _ hk
theorem one21' : (Try.prog.info? 21).map (·.size) = some 1:=by kernel_rfl
end Go.Proofs.Ytooageeehallbaa.Scr
namespace Go.Proofs.Ytooageeehallbaa.Scr
open Go.RowKit Go.Proofs.YtooageeehallbaaW.PrintWords Go.Proofs.YtooageeehallbaaW.PrintLast Go.Proofs.YtooageeehallbaaW.PrintMore Go.Proofs.Ytooageeehallbaa.QRunsCut
attribute [local go_sem] max2_int min2_int max_two min_two max_three min_three max_four min_four   -- for this text's walks alone
set_option linter.unusedVariables false
set_option linter.unusedSimpArgs false
theorem blank22 (W : World) : Calls Try.prog 34 #[.int .i64 2,.int .i64 2] W fun e w'=>∃ gt capt,e = .returned (.slice (some ⟨gt,0,none⟩) 4 capt)∧W.heap.size ≤ gt∧Kd.R k35 35 w' W.heap.size (fun _=>True) (.slice (some ⟨gt,0,none⟩) 4 capt) [blk,blk,blk,blk]∧Below W.heap.size W w' :=
 gblank_call W (R:=2) (C:=2) (by decide) (by decide)
theorem up22 {A : Option Addr} {n c : Nat} {W : World} {ok : Nat → Prop} (hc : Row k35 ⟨A,n,c⟩ (fun x=>x = [blk,blk,⟨120,0,0⟩,blk]) W ok) :
 Calls Try.prog 13 #[.slice A n c,.int .i64 2,.int .i64 0,.int .i64 1,.int .i64 1] W fun e w'=>∃ v : Sl,e = .returned (.slice v.A v.n v.c)∧Row k35 v (fun x=>x = [⟨120,0,0⟩,blk,blk,blk]) w' (fun k=>W.heap.size ≤ k)∧Below W.heap.size W w' :=
 gup_call (R:=2) (C:=2) (T:=0) (B:=1) (N:=1) hc rfl (by decide) (by decide) (by decide) (by decide)
set_option maxHeartbeats 4000000 in
set_option maxRecDepth 100000 in
theorem known8_call (W : World) : Calls Try.prog 10 #[] W fun e w'=>e = .returned (.bool true)∧Below W.heap.size W w':=by
 have HB:=zA (zE W.heap.size W);go_enter Try.func10,Try.ntmps10
 go_upto_region 6 with (first|((with_reducible refine zG (N:=3) rfl ?_);refine goesL_ (some 3) rfl rfl Try.func34 (by kernel_rfl) rfl _ rfl rfl ?_;(try simp only [zS,zT,zU]);refine Calls.mono (blank22 _) ?_;rintro e w3 ⟨gt,capt,rfl,hgt0,ho,hb⟩;have hgt:=zA (Nat.le_trans HB.out.size hgt0);have HT:=zA (Kd.R_lower ho HB.out.size);replace HB:=zA (zJ HB.out HB.out.size hb);clear hb ho hgt0;refine ⟨_,rfl,?_⟩)|((with_reducible refine zH (t:=21) (p:=9) rfl ?_);refine row_r HT.out (i:=2) (by decide) (by decide) rfl rfl rfl rfl rfl one21' ?_;intro w9 hg ho;replace HB:=zA (hb_own HB.out HT.out hg);replace HT:=zA ho;clear hg ho)|((with_reducible refine zG (N:=11) rfl ?_);refine goesL_ (some 11) rfl rfl Try.func13 (by kernel_rfl) rfl _ rfl rfl ?_;(try simp only [zS,zT,zU]);refine Calls.mono (up22 (R_row HT.out rfl)) ?_;rintro e w11 ⟨v,rfl,hv,hb⟩;have HV:=zA hv;clear HT hv;replace HB:=zA (zJ HB.out HB.out.size hb);clear hb;refine ⟨_,rfl,?_⟩))
 obtain ⟨x_,hx_,hn,hlc,hC⟩:=Row.reads HV.out;subst hx_;obtain ⟨ad,e0,hx0,hx1,hx2⟩:=at_T35 hC 0 (by decide) (by decide);obtain ⟨ad',e1,hy0,hy1,hy2⟩:=at_T35 hC 2 (by decide) (by decide);cases e0.symm.trans e1;clear hx1 hx2 hy1 hy2 HV hC e1;simp only [show Int.toNat 0 = 0 from rfl,show Int.toNat 2 = 2 from rfl,Nat.zero_mul,Nat.reduceMul,Go.Addr.add,↓reduceIte,Nat.reduceEqDiff] at hx0 hy0;go_wp2;go_ret;exact ⟨rfl,HB.out⟩
end Go.Proofs.Ytooageeehallbaa.Scr
namespace Go.Proofs.Ytooageeehallbaa.Scr
open Go.RowKit Go.Proofs.YtooageeehallbaaW.PrintWords Go.Proofs.YtooageeehallbaaW.PrintLast Go.Proofs.YtooageeehallbaaW.PrintMore Go.Proofs.Ytooageeehallbaa.QRunsCut
attribute [local go_sem] max2_int min2_int max_two min_two max_three min_three max_four min_four   -- for this text's walks alone
set_option linter.unusedVariables false
set_option linter.unusedSimpArgs false
/-- One place of a row: a half without the other half is blank. -/
def wstep (m : Nat) (xs : List S35) (lo i : Nat) : List S35 :=
 if (rd_T35 xs ((lo + i : Nat) : Int)).f2 = 1 then (if i + 1 = m∨(rd_T35 xs ((lo + (i + 1) : Nat) : Int)).f2 ≠ 2 then xs.set (lo + i) blk else xs)
 else if (rd_T35 xs ((lo + i : Nat) : Int)).f2 = 2 then (if i = 0∨(rd_T35 xs ((lo + (i - 1) : Nat) : Int)).f2 ≠ 1 then xs.set (lo + i) blk else xs) else xs
def wfold (m : Nat) (xs : List S35) (lo : Nat) : Nat → List S35
|0=>xs
|i + 1=>wstep m (wfold m xs lo i) lo i
theorem wstep_len (m : Nat) (xs : List S35) (lo i : Nat) : (wstep m xs lo i).length = xs.length:=by
 unfold wstep;split
 ·split
  ·exact List.length_set
  ·rfl
 ·split
  ·split
   ·exact List.length_set
   ·rfl
  ·rfl
theorem wfold_len (m : Nat) (xs : List S35) (lo i : Nat) : (wfold m xs lo i).length = xs.length:=by
 induction i with
|zero=>rfl
|succ i ih=>rw [wfold,wstep_len,ih]
theorem own_half {W : World} {base : Nat} {ok : Nat → Prop} {g n cap : Nat} {xs : List S35} (HR : Kd.R k35 35 W base ok (.slice (some ⟨g,0,none⟩) n cap) xs) {j off : Nat} (hj : j < n) (hoff : off = j * 3 + 2) : W.cell? ⟨g,off,none⟩ = some (.int .u8 (rd_T35 xs (j : Int)).f2):=by
 subst hoff;obtain ⟨c,hcl,hM,hcc,hfr⟩:=Kd.R_elem HR z35 (j : Int) (by omega) (by omega);obtain rfl:=k35_openM hM;exact hcc 2 _ rfl
set_option maxHeartbeats 4000000 in
set_option maxRecDepth 100000 in
theorem whole_call {W : World} {base : Nat} {ok : Nat → Prop} {g n cap : Nat} {xs : List S35} (HR : Kd.R k35 35 W base ok (.slice (some ⟨g,0,none⟩) n cap) xs) {lo m c : Nat} {A : Option Addr} (hA : 0 < m → A = some ⟨g,lo * 3,none⟩) (hlo : lo + m ≤ n) (hm6 : m ≤ 1000000) :
 Calls Try.prog 45 #[.slice A m c] W fun e w'=>e = .returned (.tuple #[])∧W.grownBy w' (some g)∧Kd.R k35 35 w' base ok (.slice (some ⟨g,0,none⟩) n cap) (wfold m xs lo m):=by
 have HT:=zA (show Kd.R k35 35 W base ok (.slice (some ⟨g,0,none⟩) n cap) (wfold m xs lo 0) from HR);have HG:=zA (World.grownBy.refl W (some g));clear HR;go_enter Try.func45,Try.ntmps45
 go_wp2;go_loopg [5] m (fun kq v5 wr=>∃ (i : Nat),v5 = .int .i64 (i : Int)∧Aside0 (kq = m - i∧i ≤ m)∧Aside0 (W.grownBy wr (some g))∧Aside0 (Kd.R k35 35 wr base ok (.slice (some ⟨g,0,none⟩) n cap) (wfold m xs lo i)))
 case atStart=>exact ⟨0,rfl,⟨by omega,by omega⟩,HG,HT⟩
 case round =>
  clear HG HT;obtain ⟨i,rfl,HK,HG,HT⟩:=hrel;by_cases hlt : i < m
  ·cases hA (by omega);have p1:=eq_true (show (0 : Int) ≤ (i : Int) by omega);have p2:=eq_true (show (i : Int) < (m : Int) by omega);have p2':=eq_true hlt;have hj:=zA (show lo + i < n by omega);have hx0:=own_half HT.out (j:=lo + i) (off:=lo * 3 + i * 3 + 2) (by omega) (by omega);obtain ⟨h0,hh0⟩ : ∃ h,h = (rd_T35 (wfold m xs lo i) ((lo + i : Nat) : Int)).f2:=⟨_,rfl⟩;rw [← hh0] at hx0;replace hh0:=zA hh0;by_cases e1 : h0 = 1
   ·subst e1;by_cases e2 : i + 1 = m
    ·have q2 : ((i : Int) + 1 == (m : Int)) = true:=beq_iff_eq.2 (by omega);have hs : wfold m xs lo (i + 1) = (wfold m xs lo i).set (lo + i) blk:=by
      rw [wfold,wstep,if_pos hh0.out.symm,if_pos (Or.inl e2)]
     clear e2;replace hs:=zA hs;go_wp2_with (first|((with_reducible refine zG (N:=31) rfl ?_);refine goesL_ (some 31) rfl rfl Try.func58 (by kernel_rfl) rfl _ rfl rfl ?_;(try simp only [zS,zT,zU]);refine Calls.mono (grid_blank.calls 32 0 0 _ rfl) ?_;rintro e w31 ⟨rfl,hb⟩;replace HG:=zA (HG.out.trans (grown_below hb));replace HT:=zA (Kd.R_below HT.out hb);clear hb;refine ⟨_,rfl,?_⟩)|((with_reducible refine zG (N:=48) rfl ?_);refine goesL_ (some 48) rfl rfl Try.func58 (by kernel_rfl) rfl _ rfl rfl ?_;(try simp only [zS,zT,zU]);refine Calls.mono (grid_blank.calls 32 0 0 _ rfl) ?_;rintro e w48 ⟨rfl,hb⟩;replace HG:=zA (HG.out.trans (grown_below hb));replace HT:=zA (Kd.R_below HT.out hb);clear hb;refine ⟨_,rfl,?_⟩)|((with_reducible refine zH (t:=35) (p:=32) rfl ?_);refine row_putw HT.out hj.out rfl rfl rfl (by first|rfl|(go_simp;rfl)) (by omega) rfl one35 ?_;intro w_32 hg ho;replace HG:=zA (HG.out.trans hg);replace HT:=zA ho;clear hg ho)|((with_reducible refine zH (t:=35) (p:=49) rfl ?_);refine row_putw HT.out hj.out rfl rfl rfl (by first|rfl|(go_simp;rfl)) (by omega) rfl one35 ?_;intro w_49 hg ho;replace HG:=zA (HG.out.trans hg);replace HT:=zA ho;clear hg ho));go_roundg (m - (i + 1))
     case measure=>have:=HK.out;omega
     case rel=>exact ⟨i + 1,by first|rfl|simp,⟨rfl,hlt⟩,HG,⟨by rw [hs.out];exact HT.out⟩⟩
    ·have q2 : ((i : Int) + 1 == (m : Int)) = false:=beq_eq_false_iff_ne.2 (by omega);have p3:=eq_true (show (0 : Int) ≤ (i : Int) + 1 by omega);have p4:=eq_true (show (i : Int) + 1 < (m : Int) by omega);have p4':=eq_true (show i + 1 < m by omega);have hx1:=own_half HT.out (j:=lo + (i + 1)) (off:=lo * 3 + (i + 1) * 3 + 2) (by omega) (by omega);obtain ⟨h1,hh1⟩ : ∃ h,h = (rd_T35 (wfold m xs lo i) ((lo + (i + 1) : Nat) : Int)).f2:=⟨_,rfl⟩;rw [← hh1] at hx1;replace hh1:=zA hh1;by_cases e3 : h1 = 2
     ·subst e3;have hs : wfold m xs lo (i + 1) = wfold m xs lo i:=by
       rw [wfold,wstep,if_pos hh0.out.symm,if_neg (fun h=>h.elim (fun h=>e2 h) (fun h=>h hh1.out.symm))]
      clear e2;replace hs:=zA hs;go_wp2_with (first|((with_reducible refine zG (N:=31) rfl ?_);refine goesL_ (some 31) rfl rfl Try.func58 (by kernel_rfl) rfl _ rfl rfl ?_;(try simp only [zS,zT,zU]);refine Calls.mono (grid_blank.calls 32 0 0 _ rfl) ?_;rintro e w31 ⟨rfl,hb⟩;replace HG:=zA (HG.out.trans (grown_below hb));replace HT:=zA (Kd.R_below HT.out hb);clear hb;refine ⟨_,rfl,?_⟩)|((with_reducible refine zG (N:=48) rfl ?_);refine goesL_ (some 48) rfl rfl Try.func58 (by kernel_rfl) rfl _ rfl rfl ?_;(try simp only [zS,zT,zU]);refine Calls.mono (grid_blank.calls 32 0 0 _ rfl) ?_;rintro e w48 ⟨rfl,hb⟩;replace HG:=zA (HG.out.trans (grown_below hb));replace HT:=zA (Kd.R_below HT.out hb);clear hb;refine ⟨_,rfl,?_⟩)|((with_reducible refine zH (t:=35) (p:=32) rfl ?_);refine row_putw HT.out hj.out rfl rfl rfl (by first|rfl|(go_simp;rfl)) (by omega) rfl one35 ?_;intro w_32 hg ho;replace HG:=zA (HG.out.trans hg);replace HT:=zA ho;clear hg ho)|((with_reducible refine zH (t:=35) (p:=49) rfl ?_);refine row_putw HT.out hj.out rfl rfl rfl (by first|rfl|(go_simp;rfl)) (by omega) rfl one35 ?_;intro w_49 hg ho;replace HG:=zA (HG.out.trans hg);replace HT:=zA ho;clear hg ho));go_roundg (m - (i + 1))
      case measure=>have:=HK.out;omega
      case rel=>exact ⟨i + 1,by first|rfl|simp,⟨rfl,hlt⟩,HG,⟨by rw [hs.out];exact HT.out⟩⟩
     ·have q3 : (h1 == 2) = false:=beq_eq_false_iff_ne.2 e3;have hs : wfold m xs lo (i + 1) = (wfold m xs lo i).set (lo + i) blk:=by
       rw [wfold,wstep,if_pos hh0.out.symm,if_pos (Or.inr (by rw [← hh1.out];exact e3))]
      clear e2 e3;replace hs:=zA hs;go_wp2_with (first|((with_reducible refine zG (N:=31) rfl ?_);refine goesL_ (some 31) rfl rfl Try.func58 (by kernel_rfl) rfl _ rfl rfl ?_;(try simp only [zS,zT,zU]);refine Calls.mono (grid_blank.calls 32 0 0 _ rfl) ?_;rintro e w31 ⟨rfl,hb⟩;replace HG:=zA (HG.out.trans (grown_below hb));replace HT:=zA (Kd.R_below HT.out hb);clear hb;refine ⟨_,rfl,?_⟩)|((with_reducible refine zG (N:=48) rfl ?_);refine goesL_ (some 48) rfl rfl Try.func58 (by kernel_rfl) rfl _ rfl rfl ?_;(try simp only [zS,zT,zU]);refine Calls.mono (grid_blank.calls 32 0 0 _ rfl) ?_;rintro e w48 ⟨rfl,hb⟩;replace HG:=zA (HG.out.trans (grown_below hb));replace HT:=zA (Kd.R_below HT.out hb);clear hb;refine ⟨_,rfl,?_⟩)|((with_reducible refine zH (t:=35) (p:=32) rfl ?_);refine row_putw HT.out hj.out rfl rfl rfl (by first|rfl|(go_simp;rfl)) (by omega) rfl one35 ?_;intro w_32 hg ho;replace HG:=zA (HG.out.trans hg);replace HT:=zA ho;clear hg ho)|((with_reducible refine zH (t:=35) (p:=49) rfl ?_);refine row_putw HT.out hj.out rfl rfl rfl (by first|rfl|(go_simp;rfl)) (by omega) rfl one35 ?_;intro w_49 hg ho;replace HG:=zA (HG.out.trans hg);replace HT:=zA ho;clear hg ho));go_roundg (m - (i + 1))
      case measure=>have:=HK.out;omega
      case rel=>exact ⟨i + 1,by first|rfl|simp,⟨rfl,hlt⟩,HG,⟨by rw [hs.out];exact HT.out⟩⟩
   ·have q1 : (h0 == 1) = false:=beq_eq_false_iff_ne.2 e1;by_cases e4 : h0 = 2
    ·subst e4;by_cases e5 : i = 0
     ·have hs : wfold m xs lo (i + 1) = (wfold m xs lo i).set (lo + i) blk:=by
       rw [wfold,wstep,if_neg (by rw [← hh0.out];decide),if_pos hh0.out.symm,if_pos (Or.inl e5)]
      have q5' : ((i : Int) == 0) = true:=beq_iff_eq.2 (by omega);clear e1 e5;replace hs:=zA hs;go_wp2_with (first|((with_reducible refine zG (N:=31) rfl ?_);refine goesL_ (some 31) rfl rfl Try.func58 (by kernel_rfl) rfl _ rfl rfl ?_;(try simp only [zS,zT,zU]);refine Calls.mono (grid_blank.calls 32 0 0 _ rfl) ?_;rintro e w31 ⟨rfl,hb⟩;replace HG:=zA (HG.out.trans (grown_below hb));replace HT:=zA (Kd.R_below HT.out hb);clear hb;refine ⟨_,rfl,?_⟩)|((with_reducible refine zG (N:=48) rfl ?_);refine goesL_ (some 48) rfl rfl Try.func58 (by kernel_rfl) rfl _ rfl rfl ?_;(try simp only [zS,zT,zU]);refine Calls.mono (grid_blank.calls 32 0 0 _ rfl) ?_;rintro e w48 ⟨rfl,hb⟩;replace HG:=zA (HG.out.trans (grown_below hb));replace HT:=zA (Kd.R_below HT.out hb);clear hb;refine ⟨_,rfl,?_⟩)|((with_reducible refine zH (t:=35) (p:=32) rfl ?_);refine row_putw HT.out hj.out rfl rfl rfl (by first|rfl|(go_simp;rfl)) (by omega) rfl one35 ?_;intro w_32 hg ho;replace HG:=zA (HG.out.trans hg);replace HT:=zA ho;clear hg ho)|((with_reducible refine zH (t:=35) (p:=49) rfl ?_);refine row_putw HT.out hj.out rfl rfl rfl (by first|rfl|(go_simp;rfl)) (by omega) rfl one35 ?_;intro w_49 hg ho;replace HG:=zA (HG.out.trans hg);replace HT:=zA ho;clear hg ho));go_roundg (m - (i + 1))
      case measure=>have:=HK.out;omega
      case rel=>exact ⟨i + 1,by first|rfl|simp,⟨rfl,hlt⟩,HG,⟨by rw [hs.out];exact HT.out⟩⟩
     ·have q5' : ((i : Int) == 0) = false:=beq_eq_false_iff_ne.2 (by omega);have p6:=eq_true (show (1 : Int) ≤ (i : Int) by omega);have p7:=eq_false (show ¬ (i : Int) < 1 by omega);have p3:=eq_true (show (0 : Int) ≤ (i : Int) - 1 by omega);have p4:=eq_true (show (i : Int) - 1 < (m : Int) by omega);have hx1:=own_half HT.out (j:=lo + (i - 1)) (off:=lo * 3 + (i - 1) * 3 + 2) (by omega) (by omega);obtain ⟨h1,hh1⟩ : ∃ h,h = (rd_T35 (wfold m xs lo i) ((lo + (i - 1) : Nat) : Int)).f2:=⟨_,rfl⟩;rw [← hh1] at hx1;replace hh1:=zA hh1;by_cases e3 : h1 = 1
      ·subst e3;have hs : wfold m xs lo (i + 1) = wfold m xs lo i:=by
        rw [wfold,wstep,if_neg (by rw [← hh0.out];decide),if_pos hh0.out.symm,if_neg (fun h=>h.elim (fun h=>e5 h) (fun h=>h hh1.out.symm))]
       clear e1 e5;replace hs:=zA hs;go_wp2_with (first|((with_reducible refine zG (N:=31) rfl ?_);refine goesL_ (some 31) rfl rfl Try.func58 (by kernel_rfl) rfl _ rfl rfl ?_;(try simp only [zS,zT,zU]);refine Calls.mono (grid_blank.calls 32 0 0 _ rfl) ?_;rintro e w31 ⟨rfl,hb⟩;replace HG:=zA (HG.out.trans (grown_below hb));replace HT:=zA (Kd.R_below HT.out hb);clear hb;refine ⟨_,rfl,?_⟩)|((with_reducible refine zG (N:=48) rfl ?_);refine goesL_ (some 48) rfl rfl Try.func58 (by kernel_rfl) rfl _ rfl rfl ?_;(try simp only [zS,zT,zU]);refine Calls.mono (grid_blank.calls 32 0 0 _ rfl) ?_;rintro e w48 ⟨rfl,hb⟩;replace HG:=zA (HG.out.trans (grown_below hb));replace HT:=zA (Kd.R_below HT.out hb);clear hb;refine ⟨_,rfl,?_⟩)|((with_reducible refine zH (t:=35) (p:=32) rfl ?_);refine row_putw HT.out hj.out rfl rfl rfl (by first|rfl|(go_simp;rfl)) (by omega) rfl one35 ?_;intro w_32 hg ho;replace HG:=zA (HG.out.trans hg);replace HT:=zA ho;clear hg ho)|((with_reducible refine zH (t:=35) (p:=49) rfl ?_);refine row_putw HT.out hj.out rfl rfl rfl (by first|rfl|(go_simp;rfl)) (by omega) rfl one35 ?_;intro w_49 hg ho;replace HG:=zA (HG.out.trans hg);replace HT:=zA ho;clear hg ho));go_roundg (m - (i + 1))
       case measure=>have:=HK.out;omega
       case rel=>exact ⟨i + 1,by first|rfl|simp,⟨rfl,hlt⟩,HG,⟨by rw [hs.out];exact HT.out⟩⟩
      ·have q3 : (h1 == 1) = false:=beq_eq_false_iff_ne.2 e3;have q3b : (h1 != 1) = true:=by simp [bne,q3]
       have hs : wfold m xs lo (i + 1) = (wfold m xs lo i).set (lo + i) blk:=by
        rw [wfold,wstep,if_neg (by rw [← hh0.out];decide),if_pos hh0.out.symm,if_pos (Or.inr (by rw [← hh1.out];exact e3))]
       clear e1 e5 e3;replace hs:=zA hs;go_wp2_with (first|((with_reducible refine zG (N:=31) rfl ?_);refine goesL_ (some 31) rfl rfl Try.func58 (by kernel_rfl) rfl _ rfl rfl ?_;(try simp only [zS,zT,zU]);refine Calls.mono (grid_blank.calls 32 0 0 _ rfl) ?_;rintro e w31 ⟨rfl,hb⟩;replace HG:=zA (HG.out.trans (grown_below hb));replace HT:=zA (Kd.R_below HT.out hb);clear hb;refine ⟨_,rfl,?_⟩)|((with_reducible refine zG (N:=48) rfl ?_);refine goesL_ (some 48) rfl rfl Try.func58 (by kernel_rfl) rfl _ rfl rfl ?_;(try simp only [zS,zT,zU]);refine Calls.mono (grid_blank.calls 32 0 0 _ rfl) ?_;rintro e w48 ⟨rfl,hb⟩;replace HG:=zA (HG.out.trans (grown_below hb));replace HT:=zA (Kd.R_below HT.out hb);clear hb;refine ⟨_,rfl,?_⟩)|((with_reducible refine zH (t:=35) (p:=32) rfl ?_);refine row_putw HT.out hj.out rfl rfl rfl (by first|rfl|(go_simp;rfl)) (by omega) rfl one35 ?_;intro w_32 hg ho;replace HG:=zA (HG.out.trans hg);replace HT:=zA ho;clear hg ho)|((with_reducible refine zH (t:=35) (p:=49) rfl ?_);refine row_putw HT.out hj.out rfl rfl rfl (by first|rfl|(go_simp;rfl)) (by omega) rfl one35 ?_;intro w_49 hg ho;replace HG:=zA (HG.out.trans hg);replace HT:=zA ho;clear hg ho));go_roundg (m - (i + 1))
       case measure=>have:=HK.out;omega
       case rel=>exact ⟨i + 1,by first|rfl|simp,⟨rfl,hlt⟩,HG,⟨by rw [hs.out];exact HT.out⟩⟩
    ·have q4 : (h0 == 2) = false:=beq_eq_false_iff_ne.2 e4;have hs : wfold m xs lo (i + 1) = wfold m xs lo i:=by
      rw [wfold,wstep,if_neg (by rw [← hh0.out];exact e1),if_neg (by rw [← hh0.out];exact e4)]
     clear e1 e4;replace hs:=zA hs;go_wp2_with (first|((with_reducible refine zG (N:=31) rfl ?_);refine goesL_ (some 31) rfl rfl Try.func58 (by kernel_rfl) rfl _ rfl rfl ?_;(try simp only [zS,zT,zU]);refine Calls.mono (grid_blank.calls 32 0 0 _ rfl) ?_;rintro e w31 ⟨rfl,hb⟩;replace HG:=zA (HG.out.trans (grown_below hb));replace HT:=zA (Kd.R_below HT.out hb);clear hb;refine ⟨_,rfl,?_⟩)|((with_reducible refine zG (N:=48) rfl ?_);refine goesL_ (some 48) rfl rfl Try.func58 (by kernel_rfl) rfl _ rfl rfl ?_;(try simp only [zS,zT,zU]);refine Calls.mono (grid_blank.calls 32 0 0 _ rfl) ?_;rintro e w48 ⟨rfl,hb⟩;replace HG:=zA (HG.out.trans (grown_below hb));replace HT:=zA (Kd.R_below HT.out hb);clear hb;refine ⟨_,rfl,?_⟩)|((with_reducible refine zH (t:=35) (p:=32) rfl ?_);refine row_putw HT.out hj.out rfl rfl rfl (by first|rfl|(go_simp;rfl)) (by omega) rfl one35 ?_;intro w_32 hg ho;replace HG:=zA (HG.out.trans hg);replace HT:=zA ho;clear hg ho)|((with_reducible refine zH (t:=35) (p:=49) rfl ?_);refine row_putw HT.out hj.out rfl rfl rfl (by first|rfl|(go_simp;rfl)) (by omega) rfl one35 ?_;intro w_49 hg ho;replace HG:=zA (HG.out.trans hg);replace HT:=zA ho;clear hg ho));go_roundg (m - (i + 1))
     case measure=>have:=HK.out;omega
     case rel=>exact ⟨i + 1,by first|rfl|simp,⟨rfl,hlt⟩,HG,⟨by rw [hs.out];exact HT.out⟩⟩
  ·have p2:=eq_false (show ¬ (i : Int) < (m : Int) by omega);have p2':=eq_false hlt;have ej : i = m:=by have:=HK.out;omega
   subst ej;go_wp2;refine bodyPost_end (results_none rfl _ _ _) rfl ?_;exact ⟨rfl,HG.out,HT.out⟩
end Go.Proofs.Ytooageeehallbaa.Scr
namespace Go.Proofs.Ytooageeehallbaa.Scr
open Go.RowKit Go.Proofs.YtooageeehallbaaW.PrintWords Go.Proofs.YtooageeehallbaaW.PrintLast Go.Proofs.YtooageeehallbaaW.PrintMore Go.Proofs.Ytooageeehallbaa.QRunsCut
attribute [local go_sem] max2_int min2_int max_two min_two max_three min_three max_four min_four   -- for this text's walks alone
set_option linter.unusedVariables false
set_option linter.unusedSimpArgs false
set_option maxHeartbeats 4000000 in
set_option maxRecDepth 100000 in
theorem grow_call {A : Option Addr} {c : Nat} {xs : List S35} {W : World} (h : Kd.C k35 W A xs.length xs) (hlc : xs.length ≤ c) {R C y : Nat} (hx : xs.length = R * C) (hR0 : 1 ≤ R∧R ≤ 1000) (hC0 : 1 ≤ C∧C ≤ 1000) (hy : y < R) :
 Calls Try.prog 44 #[.slice A xs.length c,.int .i64 (C : Int),.int .i64 (y : Int)] W fun e w'=>e = .returned (.slice (wbase A c (y * C)) C (c - y * C))∧Below W.heap.size W w':=by
 have HB:=zA (zE W.heap.size W);have HL:=zA h;have hRC : R * C ≤ 1000 * 1000:=Nat.mul_le_mul hR0.2 hC0.2;have hyC : (y + 1) * C ≤ R * C:=Nat.mul_le_mul (by omega) (Nat.le_refl _);have hyy : (y + 1) * C = y * C + C:=by rw [Nat.add_mul,Nat.one_mul]
 obtain ⟨a,ha⟩ : ∃ a,a = y * C:=⟨_,rfl⟩;obtain ⟨hi,hhi⟩ : ∃ hi,hi = (y + 1) * C:=⟨_,rfl⟩;obtain ⟨y1,hy1⟩ : ∃ y1,y1 = y + 1:=⟨_,rfl⟩;rw [← hhi,← ha] at hyy;rw [← hhi] at hyC;rw [← ha];have q1:=fun W=>win_lh A xs.length c (lo:=a) (hi:=hi) (by omega) (by omega) W
 rw [show hi - a = C by omega] at q1;have p1:=eq_false (show ¬ (y : Int) < 0 by omega);have p2:=eq_true hy;have p3:=eq_false (show ¬ R ≤ y by omega);have e2 : wrap64 ((y : Int) + 1) = (y1 : Int):=by rw [show (y : Int) + 1 = (y1 : Int) by omega,wrap64_nat (by omega)]
 have e1 : wrap64 ((y : Int) * (C : Int)) = (a : Int):=by rw [ha,Int.natCast_mul,wrap64_nat (by rw [← Int.natCast_mul];omega)]
 have e3 : wrap64 ((y1 : Int) * (C : Int)) = (hi : Int):=by rw [hhi,hy1,Int.natCast_mul,wrap64_nat (by rw [← Int.natCast_mul];omega)]
 have hx':=zA hx;have hR:=zA hR0;have hC:=zA hC0;have hlc':=zA hlc;clear hx hR0 hC0 hRC hyC hyy ha hhi hy1 hy hlc h;go_enter Try.func44,Try.ntmps44
 go_upto_region 3 with (fail)
 refine Calls.mono (grid_rows.calls A c xs (C : Int) (R : Int) _ HL.out hlc'.out (rows_ok hx'.out hR.out hC.out)) ?_;rintro e w13 ⟨rfl,hb⟩
 replace HB:=zA (zJ HB.out HB.out.size hb.below);clear hb HL;go_wp2;go_ret;exact ⟨rfl,HB.out⟩
end Go.Proofs.Ytooageeehallbaa.Scr
namespace Go.Proofs.Ytooageeehallbaa.Scr
open Go.RowKit Go.Proofs.YtooageeehallbaaW.PrintWords Go.Proofs.YtooageeehallbaaW.PrintLast Go.Proofs.YtooageeehallbaaW.PrintMore Go.Proofs.Ytooageeehallbaa.QRunsCut
attribute [local go_sem] max2_int min2_int max_two min_two max_three min_three max_four min_four   -- for this text's walks alone
set_option linter.unusedVariables false
set_option linter.unusedSimpArgs false
theorem run_neq_snil (w : World) (t e : TypeId) (a : Option Addr) (l c : Nat) (h : Try.prog.underlying t = some (.slice e)) : (binOp .neq t (.slice a l c) (.slice none 0 0)).run Try.prog w = .ok (.bool (!a.isNone)) w:=by
 simp only [binOp];simp [run_equal_slice_nil w t e a l c h]
theorem grow_own {W : World} {base : Nat} {ok : Nat → Prop} {g cap : Nat} {xs : List S35} (HR : Kd.R k35 35 W base ok (.slice (some ⟨g,0,none⟩) xs.length cap) xs) (hcap : xs.length ≤ cap) {R C y : Nat} (hx : xs.length = R * C) (hR0 : 1 ≤ R∧R ≤ 1000) (hC0 : 1 ≤ C∧C ≤ 1000) (hy : y < R) :
 Calls Try.prog 44 #[.slice (some ⟨g,0,none⟩) xs.length cap,.int .i64 (C : Int),.int .i64 (y : Int)] W fun e w'=>∃ c1,e = .returned (.slice (some ⟨g,y * C * 3,none⟩) C c1)∧C ≤ c1∧Below W.heap.size W w':=by
 obtain ⟨x_,hx_,hn,hlc,hC_⟩:=Row.reads (R_row HR (P:=fun x=>x = xs) rfl);subst hx_;have hyC : (y + 1) * C ≤ R * C:=Nat.mul_le_mul (by omega) (Nat.le_refl _);have hyy : (y + 1) * C = y * C + C:=by rw [Nat.add_mul,Nat.one_mul]
 refine (grow_call hC_ hcap hx hR0 hC0 hy).mono ?_;rintro e w' ⟨rfl,hb⟩
 exact ⟨cap - y * C,by rw [wbase_zero (by omega)],by omega,hb⟩
end Go.Proofs.Ytooageeehallbaa.Scr
namespace Go.Proofs.Ytooageeehallbaa.Scr
open Go.RowKit Go.Proofs.YtooageeehallbaaW.PrintWords Go.Proofs.YtooageeehallbaaW.PrintLast Go.Proofs.YtooageeehallbaaW.PrintMore Go.Proofs.Ytooageeehallbaa.QRunsCut
set_option linter.unusedVariables false
set_option linter.unusedSimpArgs false
def cpf (xs ys : List S35) (d s k : Nat) : List S35:=xs.take d ++ (ys.drop s).take k ++ xs.drop (d + k)
theorem cpf_len {xs ys : List S35} {d s k : Nat} (h1 : d + k ≤ xs.length) (h2 : s + k ≤ ys.length) : (cpf xs ys d s k).length = xs.length:=by
 unfold cpf;simp only [zV,List.length_take,List.length_drop];omega
theorem row_copyf_run {W : World} {base : Nat} {ok : Nat → Prop} {g n cap : Nat} {xs ys : List S35} {As : Option Addr} (HR : Kd.R k35 35 W base ok (.slice (some ⟨g,0,none⟩) n cap) xs) (HC : Kd.C k35 W As ys.length ys) {d s m m' c c' : Nat} {A A' : Option Addr} (hA : 0 < m → A = some ⟨g,d * 3,none⟩) (hA' : 0 < m' → A' = As.map (·.add (s * 3))) (h1 : d + m ≤ n) (h2 : s + m' ≤ ys.length) (ty : TypeId) :
 ∃ w1,(Builtin.copy_ #[24,24] ty #[.slice A m c,.slice A' m' c']).run Try.prog W = .ok (goInt ((Nat.min m' m : Nat) : Int)) w1∧W.grownBy w1 (some g)∧Kd.R k35 35 w1 base ok (.slice (some ⟨g,0,none⟩) n cap) (cpf xs ys d s (Nat.min m' m)):=by
 have hs3 : (Try.prog.info? 35).map (·.size) = some 3:=one35;rcases Nat.eq_zero_or_pos (Nat.min m' m) with h0|hp
 ·refine ⟨W,?_,World.grownBy.refl W _,?_⟩
  ·rw [h0];exact run_copy3_none W 24 24 ty 35 A A' m c m' c' Try.underlying24 hs3 h0
  ·rw [h0];unfold cpf;rw [List.take_zero,List.append_nil,Nat.add_zero,List.take_append_drop];exact HR
 ·have hm : 0 < m:=Nat.lt_of_lt_of_le hp (Nat.min_le_right _ _);have hm' : 0 < m':=Nat.lt_of_lt_of_le hp (Nat.min_le_left _ _);have hk1 : Nat.min m' m ≤ m:=Nat.min_le_right _ _;have hk2 : Nat.min m' m ≤ m':=Nat.min_le_left _ _;cases hA hm;cases hA' hm';obtain ⟨ad,rfl,_⟩:=HC.2.2 (by omega);obtain ⟨src,hsr,hsc⟩:=ReadsRow.inner_ HC;generalize hk : Nat.min m' m = k at hp hk1 hk2 ⊢;have HR':=HR;obtain ⟨hok,inner,ho,hr⟩:=HR;obtain ⟨hl,hcase⟩:=ho;rcases hcase with ⟨hv0,_⟩|⟨g',cap',cur,hv0,hb,hh,hnc,hcm,hcs,htake⟩
  ·cases hv0
  ·injection hv0 with e1 e2 e3
   injection e1 with e1
   injection e1 with e1 _ _
   subst e1 e2 e3;have hsz : k35.sz = 3:=rfl;rw [hsz] at hl hcs htake;have hsr3 : Reps (k35.K W) 3 ys src:=hsr;have hM : Reps (Kd.M k35 W base (fun k=>ok k∧some k ≠ some g)) 3 ys src:=hsr3.imp_ (fun p c hp=>by
    obtain rfl:=k35_open hp;exact k35_mkM _ _ _ p)
   have hsl:=hsr3.1;have hcl : ((src.drop (s * 3)).take (k * 3)).length = k * 3:=by
    simp only [List.length_take,List.length_drop];omega
   have hsrc : ∀ j v,((src.drop (s * 3)).take (k * 3))[j]? = some v → W.cell? ((ad.add (s * 3)).add j) = some v:=by
    intro j v hv;rw [List.getElem?_take] at hv;split at hv
    ·rw [List.getElem?_drop] at hv;rw [Addr.add_add];exact hsc _ _ hv
    ·cases hv
   have hrun:=run_copy3 (P:=Try.prog) W 24 24 ty 35 g (d * 3) m c (ad.add (s * 3)) m' c' ((src.drop (s * 3)).take (k * 3)) Try.underlying24 hs3 (by rw [hcl,hk]) hsrc
    (fun j hj=>by rw [zB W g _ cur 35 (0,0) hh];rw [hcl] at hj;simp;omega) (fun j _=>blk_frozen hh _)
    (fun v hv=>inner_one hM v (List.mem_of_mem_drop (List.mem_of_mem_take hv)))
   have hw:=R_window HR' (d:=d) (ys:=(ys.drop s).take k) (vs:=(src.drop (s * 3)).take (k * 3)) (Kd.reps_take (Kd.reps_drop hM) (by rw [List.length_drop];omega)) (by rw [List.length_take,List.length_drop];omega);have hyl : ((ys.drop s).take k).length = k:=by rw [List.length_take,List.length_drop];omega
   rw [hyl] at hw;rw [hk] at hrun;exact ⟨_,hrun,hw.2,hw.1⟩
theorem row_copyfw {ops : Array Oper} {rest : List Oper} {Q : Exit → Act → World → Prop} {a : Act} {o : Oper} {W : World} {base : Nat} {ok : Nat → Prop} {g n cap : Nat} {xs ys : List S35} {As : Option Addr} (HR : Kd.R k35 35 W base ok (.slice (some ⟨g,0,none⟩) n cap) xs) (HC : Kd.C k35 W As ys.length ys) {d s m m' c c' : Nat} {A A' : Option Addr} (hA : 0 < m → A = some ⟨g,d * 3,none⟩) (hA' : 0 < m' → A' = As.map (·.add (s * 3))) (h1 : d + m ≤ n) (h2 : s + m' ≤ ys.length)
 (hgd : o.guard = none) {x y : Operand} (ho : o.op = .call { callee:=.builtin .copy,args:=#[x,y],argTypes:=#[24,24] }) (hx : a.eval x = .slice A m c) (hy : a.eval y = .slice A' m' c')
 (h : ∀ w1,W.grownBy w1 (some g) → Kd.R k35 35 w1 base ok (.slice (some ⟨g,0,none⟩) n cap) (cpf xs ys d s (Nat.min m' m)) → wpList Try.prog ops Q rest (a.put o.dst (.int .i64 ((Nat.min m' m : Nat) : Int))) w1) : wpList Try.prog ops Q (o :: rest) a W:=by
 obtain ⟨w1,hr,hg,hR⟩:=row_copyf_run HR HC (c:=c) (c':=c') hA hA' h1 h2 o.type;refine wpList_plain hgd fun K hK=>?_
 unfold Oper.wp execOp;simp only [ho,resolve,invoke,builtin,Sem.run_bind,Sem.run_pure,Result.andThen_ok,zS,zT,zU,hx,hy,hr];exact hK _ _ (h w1 hg hR)
end Go.Proofs.Ytooageeehallbaa.Scr
namespace Go.Proofs.Ytooageeehallbaa.Scr
open Go.RowKit Go.Proofs.YtooageeehallbaaW.PrintWords Go.Proofs.YtooageeehallbaaW.PrintLast Go.Proofs.YtooageeehallbaaW.PrintMore Go.Proofs.Ytooageeehallbaa.QRunsCut
attribute [local go_sem] max2_int min2_int max_two min_two max_three min_three max_four min_four   -- for this text's walks alone
set_option linter.unusedVariables false
set_option linter.unusedSimpArgs false
/-- A grid of another size: its first T rows filled in. -/
def szT (xs : List S35) (C C2 m2 : Nat) : Nat → List S35
|0=>List.replicate m2 blk
|i + 1=>wfold C2 (cpf (szT xs C C2 m2 i) xs (i * C2) (i * C) (Nat.min C C2)) (i * C2) C2
theorem szT_len {xs : List S35} {R C R2 C2 : Nat} (h : xs.length = R * C) : ∀ i,i ≤ R → i ≤ R2 → (szT xs C C2 (R2 * C2) i).length = R2 * C2:=by
 intro i;induction i with
|zero=>intro _ _;exact List.length_replicate
|succ i ih =>
  intro h1 h2;have e1 : (i + 1) * C ≤ R * C:=Nat.mul_le_mul h1 (Nat.le_refl _);have e2 : (i + 1) * C2 ≤ R2 * C2:=Nat.mul_le_mul h2 (Nat.le_refl _);rw [Nat.add_mul,Nat.one_mul] at e1 e2;have k1 : Nat.min C C2 ≤ C:=Nat.min_le_left _ _;have k2 : Nat.min C C2 ≤ C2:=Nat.min_le_right _ _;rw [szT,wfold_len,cpf_len (by rw [ih (by omega) (by omega)];omega) (by omega),ih (by omega) (by omega)]
theorem grow_own' {W : World} {base : Nat} {ok : Nat → Prop} {g n cap : Nat} {xs : List S35} (HR : Kd.R k35 35 W base ok (.slice (some ⟨g,0,none⟩) n cap) xs) (hcap : n ≤ cap) {R C y : Nat} (hn : n = R * C) (hx : xs.length = n) (hR0 : 1 ≤ R∧R ≤ 1000) (hC0 : 1 ≤ C∧C ≤ 1000) (hy : y < R) :
 Calls Try.prog 44 #[.slice (some ⟨g,0,none⟩) n cap,.int .i64 (C : Int),.int .i64 (y : Int)] W fun e w'=>∃ c1,e = .returned (.slice (some ⟨g,y * C * 3,none⟩) C c1)∧C ≤ c1∧Below W.heap.size W w':=by
 subst hx;exact grow_own HR hcap hn hR0 hC0 hy
theorem grow_row {c : Sl} {xs : List S35} {W : World} {ok : Nat → Prop} (hc : Row k35 c (fun x=>x = xs) W ok) {R C y : Nat} (h : xs.length = R * C) (hR0 : 1 ≤ R∧R ≤ 1000) (hC0 : 1 ≤ C∧C ≤ 1000) (hy : y < R) :
 Calls Try.prog 44 #[.slice c.A xs.length c.c,.int .i64 (C : Int),.int .i64 (y : Int)] W fun e w'=>∃ A c1,e = .returned (.slice A C c1)∧(0 < C → A = c.A.map (·.add (y * C * 3)))∧Below W.heap.size W w':=by
 obtain ⟨x_,hx_,hn,hlc0,hC_⟩:=Row.reads hc;subst hx_;have hyC : (y + 1) * C ≤ R * C:=Nat.mul_le_mul (by omega) (Nat.le_refl _);have hyy : (y + 1) * C = y * C + C:=by rw [Nat.add_mul,Nat.one_mul]
 refine (grow_call hC_ hlc0 h hR0 hC0 hy).mono ?_;rintro e w' ⟨rfl,hb⟩
 exact ⟨_,_,rfl,fun _=>by unfold wbase;rw [if_neg (by omega)],hb⟩
theorem gblank_call' (W : World) {R C m : Nat} (hR : 1 ≤ R∧R ≤ 1000) (hC : 1 ≤ C∧C ≤ 1000) (hm : m = R * C) :
 Calls Try.prog 34 #[.int .i64 (R : Int),.int .i64 (C : Int)] W fun e w'=>∃ gt capt,e = .returned (.slice (some ⟨gt,0,none⟩) m capt)∧W.heap.size ≤ gt∧Kd.R k35 35 w' W.heap.size (fun _=>True) (.slice (some ⟨gt,0,none⟩) m capt) (List.replicate m blk)∧Below W.heap.size W w':=by
 subst hm;exact gblank_call W hR hC
set_option maxHeartbeats 4000000 in
set_option maxRecDepth 100000 in
theorem gsize_call {c : Sl} {xs : List S35} {W : World} {ok : Nat → Prop} (hc : Row k35 c (fun x=>x = xs) W ok) {R C R2 C2 : Nat} (h : xs.length = R * C) (hR0 : 1 ≤ R∧R ≤ 1000) (hC0 : 1 ≤ C∧C ≤ 1000) (hR20 : 1 ≤ R2∧R2 ≤ 1000) (hC20 : 1 ≤ C2∧C2 ≤ 1000) :
 Calls Try.prog 14 #[.slice c.A c.n c.c,.int .i64 (R : Int),.int .i64 (C : Int),.int .i64 (R2 : Int),.int .i64 (C2 : Int)] W fun e w'=>∃ v : Sl,e = .returned (.slice v.A v.n v.c)∧Row k35 v (fun x=>x = szT xs C C2 (R2 * C2) (min R R2)) w' (fun k=>W.heap.size ≤ k)∧Below W.heap.size W w':=by
 have HB:=zA (zE W.heap.size W);have HL:=zA (mvRow.enter hc (n:=W.heap.size) rfl);obtain ⟨x_,hx_,hn,hlc0,hC_⟩:=Row.reads hc;subst hx_;have hxs:=zA h;have hR:=zA hR0;have hC:=zA hC0;have hR2:=zA hR20;have hC2:=zA hC20;have hRi:=zA (show (1 : Int) ≤ (R : Int)∧(R : Int) ≤ 1000 by omega);have hCi:=zA (show (1 : Int) ≤ (C : Int)∧(C : Int) ≤ 1000 by omega);have hR2i:=zA (show (1 : Int) ≤ (R2 : Int)∧(R2 : Int) ≤ 1000 by omega);have hC2i:=zA (show (1 : Int) ≤ (C2 : Int)∧(C2 : Int) ≤ 1000 by omega);have hRC : R * C ≤ 1000 * 1000:=Nat.mul_le_mul hR0.2 hC0.2;obtain ⟨M,hM⟩ : ∃ M,M = min R R2:=⟨_,rfl⟩;rw [← hM];have hM1:=zA (show M ≤ R∧M ≤ R2 by omega);have e6 : (if R2 < R then (R2 : Int) else (R : Int)) = (M : Int):=by split <;> omega
 have e1 : wrap64 ((R : Int) * (C : Int)) = (x_.length : Int):=by rw [h,Int.natCast_mul,wrap64_nat (by rw [← Int.natCast_mul];omega)]
 obtain ⟨m2,hm2_⟩ : ∃ m2,m2 = R2 * C2:=⟨_,rfl⟩;have szl : ∀ i,i ≤ R → i ≤ R2 → (szT x_ C C2 m2 i).length = m2:=by rw [hm2_];exact szT_len h
 rw [← hm2_];have hm2:=zA hm2_;clear h hc hC_ hlc0 hR0 hC0 hR20 hC20 hRC hM hm2_;go_enter Try.func14,Try.ntmps14
 go_upto_region 3 with (first|((with_reducible refine zG (N:=14) rfl ?_);refine goesL_ (some 14) rfl rfl Try.func43 (by kernel_rfl) rfl _ rfl rfl ?_;(try simp only [zS,zT,zU]);refine Calls.mono (grid_size.calls (R : Int) true _ (size_ok hRi.out)) ?_;rintro e w14 ⟨rfl,hb⟩;replace hb:=hb.below;replace HL:=zA (mvRow.call HL.out hb);replace HB:=zA (zJ HB.out HB.out.size hb);clear hb;refine ⟨_,rfl,?_⟩)|((with_reducible refine zG (N:=43) rfl ?_);refine goesL_ (some 43) rfl rfl Try.func34 (by kernel_rfl) rfl _ rfl rfl ?_;(try simp only [zS,zT,zU]);refine Calls.mono (gblank_call' _ hR2.out hC2.out hm2.out) ?_;rintro e w43 ⟨gt,capt,rfl,hgt0,ho,hb⟩;have HT:=zA (Kd.R_lower ho HB.out.size);replace HL:=zA (mvRow.callnew HL.out hb hgt0);replace HB:=zA (zJ HB.out HB.out.size hb);clear hb ho hgt0;refine ⟨_,rfl,?_⟩))
 refine Calls.mono (grid_size.calls (C : Int) true _ (size_ok hCi.out)) ?_;rintro e w18 ⟨rfl,hb⟩
 replace hb:=hb.below;replace HL:=zA (mvRow.call HL.out hb);replace HB:=zA (zJ HB.out HB.out.size hb);clear hb;go_upto_region 3 with (first|((with_reducible refine zG (N:=14) rfl ?_);refine goesL_ (some 14) rfl rfl Try.func43 (by kernel_rfl) rfl _ rfl rfl ?_;(try simp only [zS,zT,zU]);refine Calls.mono (grid_size.calls (R : Int) true _ (size_ok hRi.out)) ?_;rintro e w14 ⟨rfl,hb⟩;replace hb:=hb.below;replace HL:=zA (mvRow.call HL.out hb);replace HB:=zA (zJ HB.out HB.out.size hb);clear hb;refine ⟨_,rfl,?_⟩)|((with_reducible refine zG (N:=43) rfl ?_);refine goesL_ (some 43) rfl rfl Try.func34 (by kernel_rfl) rfl _ rfl rfl ?_;(try simp only [zS,zT,zU]);refine Calls.mono (gblank_call' _ hR2.out hC2.out hm2.out) ?_;rintro e w43 ⟨gt,capt,rfl,hgt0,ho,hb⟩;have HT:=zA (Kd.R_lower ho HB.out.size);replace HL:=zA (mvRow.callnew HL.out hb hgt0);replace HB:=zA (zJ HB.out HB.out.size hb);clear hb ho hgt0;refine ⟨_,rfl,?_⟩))
 refine Calls.mono (grid_size.calls (R2 : Int) true _ (size_ok hR2i.out)) ?_;rintro e w23 ⟨rfl,hb⟩
 replace hb:=hb.below;replace HL:=zA (mvRow.call HL.out hb);replace HB:=zA (zJ HB.out HB.out.size hb);clear hb;go_upto_region 3 with (first|((with_reducible refine zG (N:=14) rfl ?_);refine goesL_ (some 14) rfl rfl Try.func43 (by kernel_rfl) rfl _ rfl rfl ?_;(try simp only [zS,zT,zU]);refine Calls.mono (grid_size.calls (R : Int) true _ (size_ok hRi.out)) ?_;rintro e w14 ⟨rfl,hb⟩;replace hb:=hb.below;replace HL:=zA (mvRow.call HL.out hb);replace HB:=zA (zJ HB.out HB.out.size hb);clear hb;refine ⟨_,rfl,?_⟩)|((with_reducible refine zG (N:=43) rfl ?_);refine goesL_ (some 43) rfl rfl Try.func34 (by kernel_rfl) rfl _ rfl rfl ?_;(try simp only [zS,zT,zU]);refine Calls.mono (gblank_call' _ hR2.out hC2.out hm2.out) ?_;rintro e w43 ⟨gt,capt,rfl,hgt0,ho,hb⟩;have HT:=zA (Kd.R_lower ho HB.out.size);replace HL:=zA (mvRow.callnew HL.out hb hgt0);replace HB:=zA (zJ HB.out HB.out.size hb);clear hb ho hgt0;refine ⟨_,rfl,?_⟩))
 refine Calls.mono (grid_size.calls (C2 : Int) true _ (size_ok hC2i.out)) ?_;rintro e w28 ⟨rfl,hb⟩
 replace hb:=hb.below;replace HL:=zA (mvRow.call HL.out hb);replace HB:=zA (zJ HB.out HB.out.size hb);clear hb;go_upto_region 3 with (first|((with_reducible refine zG (N:=14) rfl ?_);refine goesL_ (some 14) rfl rfl Try.func43 (by kernel_rfl) rfl _ rfl rfl ?_;(try simp only [zS,zT,zU]);refine Calls.mono (grid_size.calls (R : Int) true _ (size_ok hRi.out)) ?_;rintro e w14 ⟨rfl,hb⟩;replace hb:=hb.below;replace HL:=zA (mvRow.call HL.out hb);replace HB:=zA (zJ HB.out HB.out.size hb);clear hb;refine ⟨_,rfl,?_⟩)|((with_reducible refine zG (N:=43) rfl ?_);refine goesL_ (some 43) rfl rfl Try.func34 (by kernel_rfl) rfl _ rfl rfl ?_;(try simp only [zS,zT,zU]);refine Calls.mono (gblank_call' _ hR2.out hC2.out hm2.out) ?_;rintro e w43 ⟨gt,capt,rfl,hgt0,ho,hb⟩;have HT:=zA (Kd.R_lower ho HB.out.size);replace HL:=zA (mvRow.callnew HL.out hb hgt0);replace HB:=zA (zJ HB.out HB.out.size hb);clear hb ho hgt0;refine ⟨_,rfl,?_⟩))
 go_upto_region 5 with (first|((with_reducible refine zG (N:=14) rfl ?_);refine goesL_ (some 14) rfl rfl Try.func43 (by kernel_rfl) rfl _ rfl rfl ?_;(try simp only [zS,zT,zU]);refine Calls.mono (grid_size.calls (R : Int) true _ (size_ok hRi.out)) ?_;rintro e w14 ⟨rfl,hb⟩;replace hb:=hb.below;replace HL:=zA (mvRow.call HL.out hb);replace HB:=zA (zJ HB.out HB.out.size hb);clear hb;refine ⟨_,rfl,?_⟩)|((with_reducible refine zG (N:=43) rfl ?_);refine goesL_ (some 43) rfl rfl Try.func34 (by kernel_rfl) rfl _ rfl rfl ?_;(try simp only [zS,zT,zU]);refine Calls.mono (gblank_call' _ hR2.out hC2.out hm2.out) ?_;rintro e w43 ⟨gt,capt,rfl,hgt0,ho,hb⟩;have HT:=zA (Kd.R_lower ho HB.out.size);replace HL:=zA (mvRow.callnew HL.out hb hgt0);replace HB:=zA (zJ HB.out HB.out.size hb);clear hb ho hgt0;refine ⟨_,rfl,?_⟩))
 have hcap:=zA (show m2 ≤ capt by
  obtain ⟨y_,hy_,hyn,hcap_,_⟩:=Row.reads (R_row HT.out (P:=fun _=>True) trivial);have h1 : m2 = y_.length:=hyn;rw [h1];exact hcap_)
 have hm20:=zA hm2.out;go_loopg [47] M (fun kq v47 wr=>∃ (i : Nat),v47 = .int .i64 (i : Int)∧Aside0 (kq = M - i∧i ≤ M)∧Aside0 (Below W.heap.size W wr)∧Aside0 (Row k35 c (fun x=>x = x_) wr (Nb ok W.heap.size [gt]))∧Aside0 (Kd.R k35 35 wr W.heap.size (fun _=>True) (.slice (some ⟨gt,0,none⟩) m2 capt) (szT x_ C C2 m2 i)))
 case atStart=>exact ⟨0,rfl,⟨by omega,by omega⟩,HB,HL,HT⟩
 case round =>
  clear HB HL HT;obtain ⟨i,rfl,HK,HB,HL,HT⟩:=hrel;by_cases hlt : i < M
  ·have p1:=eq_true (show (i : Int) < (M : Int) by omega);have p1':=eq_true hlt;have hi1:=zA (show i < R by have:=hM1.out;omega);have hi2:=zA (show i < R2 by have:=hM1.out;omega);have k1 : (i + 1) * C ≤ R * C:=Nat.mul_le_mul (by have:=hM1.out;omega) (Nat.le_refl _);have k2 : (i + 1) * C2 ≤ R2 * C2:=Nat.mul_le_mul (by have:=hM1.out;omega) (Nat.le_refl _);rw [Nat.add_mul,Nat.one_mul] at k1 k2;have hlo1:=zA (show i * C + C ≤ x_.length by rw [hxs.out];exact k1);have hlo2:=zA (show i * C2 + C2 ≤ m2 by rw [hm2.out];exact k2);have szi:=zA (szl i (by have:=hM1.out;omega) (by have:=hM1.out;omega));clear k1 k2;have ei:=zA (show wrap64 ((i : Int) + 1) = ((i + 1 : Nat) : Int) by rw [show (i : Int) + 1 = ((i + 1 : Nat) : Int) from rfl,wrap64_nat (by have:=hi1.out;have:=hR.out;omega)]);go_wp2_with (first|((with_reducible refine zG (N:=53) rfl ?_);refine goesL_ (some 53) rfl rfl Try.func44 (by kernel_rfl) rfl _ rfl rfl ?_;(try simp only [zS,zT,zU]);have e_:=grow_own' HT.out hcap.out hm2.out szi.out hR2.out hC2.out hi2.out;refine Calls.mono e_ ?_;clear e_;rintro e w53 ⟨c53,rfl,hc1_,hb⟩;clear hc1_;replace HT:=zA (Kd.R_below HT.out hb);replace HL:=zA (mvRow.call HL.out hb);replace HB:=zA (zJ HB.out HB.out.size hb);clear hb;refine ⟨_,rfl,?_⟩)|((with_reducible refine zG (N:=57) rfl ?_);refine goesL_ (some 57) rfl rfl Try.func44 (by kernel_rfl) rfl _ rfl rfl ?_;(try simp only [zS,zT,zU]);have e_:=grow_row HL.out hxs.out hR.out hC.out hi1.out;refine Calls.mono e_ ?_;clear e_;rintro e w57 ⟨A57,c57,rfl,hA57,hb⟩;replace hA57:=zA hA57;replace HT:=zA (Kd.R_below HT.out hb);replace HL:=zA (mvRow.call HL.out hb);replace HB:=zA (zJ HB.out HB.out.size hb);clear hb;refine ⟨_,rfl,?_⟩)|((with_reducible refine zG (N:=58) rfl ?_);obtain ⟨y_,hy_,_,_,hCy⟩:=Row.reads HL.out;subst hy_;refine row_copyfw HT.out hCy (d:=i * C2) (s:=i * C) (m:=C2) (m':=C) (fun _=>rfl) hA57.out hlo2.out hlo1.out rfl rfl rfl rfl ?_;clear hCy;intro w58 hg ho;replace HB:=zA (hb_own HB.out HT.out hg);replace HL:=zA (mvRow.grown HL.out hg (by simp only [zW,true_or]));replace HT:=zA ho;clear hg ho));have e_:=grow_own' HT.out hcap.out hm2.out (by rw [cpf_len (by rw [szi.out];have:=(show Nat.min C C2 ≤ C2 from Nat.min_le_right _ _);have:=hlo2.out;omega) (by have:=(show Nat.min C C2 ≤ C from Nat.min_le_left _ _);have:=hlo1.out;omega)];exact szi.out) hR2.out hC2.out hi2.out;refine Calls.mono e_ ?_;clear e_;rintro e w62 ⟨c62,rfl,hc1_,hb⟩
   clear hc1_;replace HT:=zA (Kd.R_below HT.out hb);replace HL:=zA (mvRow.call HL.out hb);replace HB:=zA (zJ HB.out HB.out.size hb);clear hb;go_wp2_with (first|((with_reducible refine zG (N:=63) rfl ?_);refine goesL_ (some 63) rfl rfl Try.func45 (by kernel_rfl) rfl _ rfl rfl ?_;(try simp only [zS,zT,zU]);refine Calls.mono (whole_call HT.out (lo:=i * C2) (m:=C2) (fun _=>rfl) hlo2.out (by have:=hC2.out;omega)) ?_;rintro e w63 ⟨rfl,hg,ho⟩;replace HB:=zA (hb_own HB.out HT.out hg);replace HL:=zA (mvRow.grown HL.out hg (by simp only [zW,true_or]));replace HT:=zA ho;clear hg ho;refine ⟨_,rfl,?_⟩));go_roundg (M - (i + 1))
   case measure=>have:=HK.out;omega
   case rel=>exact ⟨i + 1,by first|rfl|(rw [ei.out])|simp,⟨rfl,hlt⟩,HB,HL,HT⟩
  ·have p1:=eq_false (show ¬ (i : Int) < (M : Int) by omega);have p1':=eq_false hlt;have ej : i = M:=by have:=HK.out;omega
   subst ej;go_wp2;go_ret;obtain ⟨v,hv,hr⟩:=Row.made (P:=fun x=>x = szT x_ C C2 m2 i) HT.out rfl;exact ⟨v,by rw [← hv];rfl,hr,HB.out⟩
end Go.Proofs.Ytooageeehallbaa.Scr
namespace Go.Proofs.Ytooageeehallbaa.Scr
open Go.RowKit Go.Proofs.YtooageeehallbaaW.PrintWords Go.Proofs.YtooageeehallbaaW.PrintLast Go.Proofs.YtooageeehallbaaW.PrintMore Go.Proofs.Ytooageeehallbaa.QRunsCut
set_option linter.unusedVariables false
set_option linter.unusedSimpArgs false
theorem whole_same {m : Nat} {F : List S35} {lo : Nat} (hg : ∀ j,j < m → ((rd_T35 F ((lo + j : Nat) : Int)).f2 = 1 → j + 1 ≠ m∧(rd_T35 F ((lo + (j + 1) : Nat) : Int)).f2 = 2)∧((rd_T35 F ((lo + j : Nat) : Int)).f2 = 2 → j ≠ 0∧(rd_T35 F ((lo + (j - 1) : Nat) : Int)).f2 = 1)) : ∀ i,i ≤ m → wfold m F lo i = F:=by
 intro i;induction i with
|zero=>intro _;rfl
|succ i ih =>
  intro hi;rw [wfold,ih (by omega)];obtain ⟨h1,h2⟩:=hg i (by omega);unfold wstep;split
  ·rename_i h
   rw [if_neg (fun hh=>hh.elim (fun e=>(h1 h).1 e) (fun e=>e (h1 h).2))]
  ·split
   ·rename_i h
    rw [if_neg (fun hh=>hh.elim (fun e=>(h2 h).1 e) (fun e=>e (h2 h).2))]
   ·rfl
end Go.Proofs.Ytooageeehallbaa.Scr
namespace Go.Proofs.Ytooageeehallbaa.Scr
open Go.RowKit Go.Proofs.YtooageeehallbaaW.PrintWords Go.Proofs.YtooageeehallbaaW.PrintLast Go.Proofs.YtooageeehallbaaW.PrintMore Go.Proofs.Ytooageeehallbaa.QRunsCut
set_option linter.unusedVariables false
set_option linter.unusedSimpArgs false
theorem rd_cpf {xs ys : List S35} {d s k : Nat} (h1 : d + k ≤ xs.length) (h2 : s + k ≤ ys.length) (p : Nat) : rd_T35 (cpf xs ys d s k) (p : Int) = if d ≤ p∧p < d + k then rd_T35 ys ((s + (p - d) : Nat) : Int) else rd_T35 xs (p : Int):=by
 unfold rd_T35 cpf;simp only [Int.toNat_natCast,List.getD_eq_getElem?_getD];have e1 : (xs.take d).length = d:=by rw [List.length_take];omega
 have e2 : ((ys.drop s).take k).length = k:=by rw [List.length_take,List.length_drop];omega
 rcases Nat.lt_or_ge p d with h|h
 ·rw [if_neg (by omega),List.append_assoc,List.getElem?_append_left (by omega),List.getElem?_take,if_pos h]
 ·rcases Nat.lt_or_ge p (d + k) with h'|h'
  ·rw [if_pos ⟨h,h'⟩,List.getElem?_append_left (by rw [zV];omega),List.getElem?_append_right (by omega),e1,List.getElem?_take,if_pos (by omega),List.getElem?_drop]
  ·rw [if_neg (by omega),List.getElem?_append_right (by rw [zV];omega),zV,e1,e2,List.getElem?_drop];congr 2
   omega
/-- Row y of a grid of C columns,made C2 wide. -/
def prow (xs : List S35) (C y x : Nat) : S35:=if x < C then rd_T35 xs ((y * C + x : Nat) : Int) else blk
def PGood (xs : List S35) (C C2 y : Nat) : Prop:=∀ x,x < C2 → ((prow xs C y x).f2 = 1 → x + 1 ≠ C2∧(prow xs C y (x + 1)).f2 = 2)∧((prow xs C y x).f2 = 2 → x ≠ 0∧(prow xs C y (x - 1)).f2 = 1)
theorem place_ne {C y i x : Nat} (h : y ≠ i) (hx : x < C) : ¬ (i * C ≤ y * C + x∧y * C + x < i * C + C):=by
 intro hh;rcases Nat.lt_or_ge y i with hl|hl
 ·have h1 : (y + 1) * C ≤ i * C:=Nat.mul_le_mul (by omega) (Nat.le_refl _);rw [Nat.add_mul,Nat.one_mul] at h1;omega
 ·have h1 : (i + 1) * C ≤ y * C:=Nat.mul_le_mul (by omega) (Nat.le_refl _);rw [Nat.add_mul,Nat.one_mul] at h1;omega
theorem szT_rd {xs : List S35} {R C R2 C2 T : Nat} (h : xs.length = R * C) (hT1 : T ≤ R) (hT2 : T ≤ R2) (hg : ∀ y,y < T → PGood xs C C2 y) : ∀ i,i ≤ T → ∀ y,y < R2 → ∀ x,x < C2 → rd_T35 (szT xs C C2 (R2 * C2) i) ((y * C2 + x : Nat) : Int) = if y < i then prow xs C y x else blk:=by
 intro i;induction i with
|zero =>
  intro _ y hy x hx;rw [if_neg (by omega),szT];unfold rd_T35;have e1 : (y + 1) * C2 ≤ R2 * C2:=Nat.mul_le_mul (by omega) (Nat.le_refl _);rw [Nat.add_mul,Nat.one_mul] at e1;rw [Int.toNat_natCast,List.getD_eq_getElem?_getD,List.getElem?_replicate,if_pos (by omega)];rfl
|succ i ih =>
  intro hi y hy x hx;have hk1 : Nat.min C C2 ≤ C:=Nat.min_le_left _ _;have hk2 : Nat.min C C2 ≤ C2:=Nat.min_le_right _ _;have hk3 : x < C → x < Nat.min C C2:=fun h=>Nat.lt_min.2 ⟨h,hx⟩
  have e1 : (i + 1) * C2 ≤ R2 * C2:=Nat.mul_le_mul (by omega) (Nat.le_refl _);have e2 : (i + 1) * C ≤ R * C:=Nat.mul_le_mul (by omega) (Nat.le_refl _);rw [Nat.add_mul,Nat.one_mul] at e1 e2;have hl : (szT xs C C2 (R2 * C2) i).length = R2 * C2:=szT_len h i (by omega) (by omega);have hrow : ∀ y',y' < R2 → ∀ x',x' < C2 → rd_T35 (cpf (szT xs C C2 (R2 * C2) i) xs (i * C2) (i * C) (Nat.min C C2)) ((y' * C2 + x' : Nat) : Int) = if y' < i + 1 then prow xs C y' x' else blk:=by
   intro y' hy' x' hx';have hk4 : x' < C → x' < Nat.min C C2:=fun h=>Nat.lt_min.2 ⟨h,hx'⟩
   rw [rd_cpf (by omega) (by omega),ih (by omega) y' hy' x' hx'];by_cases hyi : y' = i
   ·subst hyi;rw [if_neg (show ¬ y' < y' by omega),if_pos (show y' < y' + 1 by omega)];unfold prow;by_cases hc : x' < C
    ·have:=hk4 hc;rw [if_pos (by omega),if_pos hc,show y' * C2 + x' - y' * C2 = x' by omega]
    ·rw [if_neg (by omega),if_neg hc]
   ·have:=place_ne hyi hx';rw [if_neg (by omega)];by_cases h1 : y' < i
    ·rw [if_pos h1,if_pos (by omega)]
    ·rw [if_neg h1,if_neg (by omega)]
  rw [szT,whole_same (m:=C2) (lo:=i * C2) (fun j hj=>?_) C2 (Nat.le_refl _)]
  ·exact hrow y hy x hx
  ·obtain ⟨g1,g2⟩:=hg i (by omega) j hj;have r0:=hrow i (by omega) j hj;rw [if_pos (by omega)] at r0;rw [r0];refine ⟨fun hh=>?_,fun hh=>?_⟩
   ·obtain ⟨a1,a2⟩:=g1 hh;have r1:=hrow i (by omega) (j + 1) (by omega);rw [if_pos (by omega)] at r1;exact ⟨a1,by rw [r1];exact a2⟩
   ·obtain ⟨a1,a2⟩:=g2 hh;have r1:=hrow i (by omega) (j - 1) (by omega);rw [if_pos (by omega)] at r1;exact ⟨a1,by rw [r1];exact a2⟩
theorem rd_ext {xs ys : List S35} (h : xs.length = ys.length) (hr : ∀ p,p < xs.length → rd_T35 xs (p : Int) = rd_T35 ys (p : Int)) : xs = ys:=by
 apply List.ext_getElem h;intro p h1 h2;have:=hr p h1;unfold rd_T35 at this;rw [Int.toNat_natCast,List.getD_eq_getElem?_getD,List.getElem?_eq_getElem h1,List.getD_eq_getElem?_getD,List.getElem?_eq_getElem h2] at this;exact this
theorem grid_good {R C C2 : Nat} {xs : List S35} (hG : Grid (R : Int) (C : Int) xs) (hc : C ≤ C2) {y : Nat} (hy : y < R) : PGood xs C C2 y:=by
 have hw:=hG.whole (y : Int) (by omega) (by omega) (by omega);have key : ∀ x : Nat,(y : Int) * (C : Int) + (x : Int) = ((y * C + x : Nat) : Int):=fun x=>by rw [Int.natCast_add,Int.natCast_mul]
 intro x hx;unfold prow;by_cases h1 : x < C
 ·obtain ⟨a1,a2⟩:=hw (x : Int) (by omega) (by omega);rw [key] at a1 a2;rw [if_pos h1];refine ⟨fun hh=>?_,fun hh=>?_⟩
  ·obtain ⟨b1,b2⟩:=a1 hh;rw [if_pos (by omega)];exact ⟨by omega,b2⟩
  ·obtain ⟨b1,b2⟩:=a2 hh;rw [if_pos (by omega)];refine ⟨by omega,?_⟩;rw [show ((y * C + x : Nat) : Int) - 1 = ((y * C + (x - 1) : Nat) : Int) by omega] at b2;exact b2
 ·rw [if_neg h1];exact ⟨fun hh=>(by cases hh),fun hh=>(by cases hh)⟩
theorem size_same {R C : Nat} {xs : List S35} (hC : 1 ≤ C) (hG : Grid (R : Int) (C : Int) xs) (h : xs.length = R * C) : szT xs C C (R * C) R = xs:=by
 have hl:=szT_len (C2:=C) (R2:=R) h R (Nat.le_refl _) (Nat.le_refl _);refine rd_ext (by rw [hl,h]) fun p hp=>?_
 rw [hl] at hp;have hr:=szT_rd (R2:=R) h (Nat.le_refl R) (Nat.le_refl R) (fun y hy=>grid_good hG (Nat.le_refl C) hy) R (Nat.le_refl R) (p / C) (Nat.div_lt_of_lt_mul (by rw [Nat.mul_comm];exact hp)) (p % C) (Nat.mod_lt _ hC);rw [show p / C * C + p % C = p by rw [Nat.mul_comm];exact Nat.div_add_mod p C] at hr;rw [hr,if_pos (Nat.div_lt_of_lt_mul (by rw [Nat.mul_comm];exact hp))];unfold prow;rw [if_pos (Nat.mod_lt _ hC),show p / C * C + p % C = p by rw [Nat.mul_comm];exact Nat.div_add_mod p C]
theorem size_back {R C R2 C2 : Nat} {xs : List S35} (hC : 1 ≤ C) (hG : Grid (R : Int) (C : Int) xs) (h : xs.length = R * C) (hR : R ≤ R2) (hCC : C ≤ C2) : szT (szT xs C C2 (R2 * C2) R) C2 C (R * C) R = xs:=by
 obtain ⟨g,hg⟩ : ∃ g,g = szT xs C C2 (R2 * C2) R:=⟨_,rfl⟩;rw [← hg];have hgl : g.length = R2 * C2:=by rw [hg];exact szT_len h R (Nat.le_refl _) hR
 have hgr : ∀ y,y < R → ∀ x,x < C → prow g C2 y x = prow xs C y x:=by
  intro y hy x hx;have hr:=szT_rd (R2:=R2) h (Nat.le_refl R) hR (fun y hy=>grid_good hG hCC hy) R (Nat.le_refl R) y (by omega) x (by omega);rw [if_pos hy,← hg] at hr;rw [prow,if_pos (by omega),hr]
 have hgood : ∀ y,y < R → PGood g C2 C y:=by
  intro y hy x hx;obtain ⟨a1,a2⟩:=grid_good hG (Nat.le_refl C) hy x hx;rw [hgr y hy x hx];refine ⟨fun hh=>?_,fun hh=>?_⟩
  ·obtain ⟨b1,b2⟩:=a1 hh;exact ⟨b1,by rw [hgr y hy _ (by omega)];exact b2⟩
  ·obtain ⟨b1,b2⟩:=a2 hh;exact ⟨b1,by rw [hgr y hy _ (by omega)];exact b2⟩
 have hl:=szT_len (C2:=C) (R2:=R) hgl R hR (Nat.le_refl _);refine rd_ext (by rw [hl,h]) fun p hp=>?_
 rw [hl] at hp;have hq : p / C < R:=Nat.div_lt_of_lt_mul (by rw [Nat.mul_comm];exact hp);have hr:=szT_rd (R2:=R) hgl hR (Nat.le_refl R) hgood R (Nat.le_refl R) (p / C) hq (p % C) (Nat.mod_lt _ hC);rw [show p / C * C + p % C = p by rw [Nat.mul_comm];exact Nat.div_add_mod p C] at hr;rw [hr,if_pos hq,hgr _ hq _ (Nat.mod_lt _ hC)];unfold prow;rw [if_pos (Nat.mod_lt _ hC),show p / C * C + p % C = p by rw [Nat.mul_comm];exact Nat.div_add_mod p C]
end Go.Proofs.Ytooageeehallbaa.Scr
namespace Go.Proofs.Ytooageeehallbaa.Runs
open Go.RowKit Go.Proofs.YtooageeehallbaaW.PrintWords Go.Proofs.YtooageeehallbaaW.PrintLast Go.Proofs.YtooageeehallbaaW.PrintMore Go.Proofs.Ytooageeehallbaa.QRunsCut Go.Proofs.Ytooageeehallbaa.Scr
set_option linter.unusedVariables false
set_option linter.unusedSimpArgs false
theorem same_l0 (x : List S35) (hx : x.length ≤ 1000000) : ∀ d i : Nat,i + d = x.length → repriseref7_SameCells.l0 (d + 1) x x (i : Int) = some true:=by
 intro d;induction d with
|zero=>intro i hi;rw [repriseref7_SameCells.l0,if_neg (by omega)]
|succ d ih =>
  intro i hi;have he : wrap64 ((i : Int) + 1) = ((i + 1 : Nat) : Int):=by rw [w64 _ (by omega) (by omega)];omega
  rw [repriseref7_SameCells.l0,if_pos (by omega),if_pos (by omega),if_pos (by omega),if_neg (by simp),he];exact ih (i + 1) (by omega)
theorem same_ok (x : List S35) (hx : x.length ≤ 1000000) : repriseref7_SameCells.f (x.length + 1) x x = some true:=by
 unfold repriseref7_SameCells.f;rw [if_pos rfl];exact same_l0 x hx x.length 0 (by omega)
theorem same_call {q c : Sl} {l : List S35} {W : World} {ok ok' : Nat → Prop} (hq : Row k35 q (fun x=>x = l) W ok) (hc : Row k35 c (fun x=>x = l) W ok') (hl : l.length ≤ 1000000) :
 Calls Try.prog 15 #[.slice q.A q.n q.c,.slice c.A c.n c.c] W fun e w'=>e = .returned (.bool true)∧Below W.heap.size W w':=by
 obtain ⟨x,rfl,hn,hlc,hC⟩:=Row.reads hq;obtain ⟨y,rfl,hn',hlc',hC'⟩:=Row.reads hc;rw [hn,hn'];refine (repriseref7_SameCells.calls _ q.A q.c y c.A c.c y true W hC hlc hC' hlc' (same_ok y hl)).mono ?_;rintro e w' ⟨rfl,hd⟩
 exact ⟨rfl,hd.below⟩
end Go.Proofs.Ytooageeehallbaa.Runs
namespace Go.Proofs.Ytooageeehallbaa.Scr
open Go.RowKit Go.Proofs.YtooageeehallbaaW.PrintWords Go.Proofs.YtooageeehallbaaW.PrintLast Go.Proofs.YtooageeehallbaaW.PrintMore Go.Proofs.Ytooageeehallbaa.QRunsCut
attribute [local go_sem] max2_int min2_int max_two min_two max_three min_three max_four min_four   -- for this text's walks alone
set_option linter.unusedVariables false
set_option linter.unusedSimpArgs false
attribute [local go_sem] run_neq_snil
end Go.Proofs.Ytooageeehallbaa.Scr
namespace Go.Proofs.Ytooageeehallbaa.Scr
open Go.RowKit Go.Proofs.YtooageeehallbaaW.PrintWords Go.Proofs.YtooageeehallbaaW.PrintLast Go.Proofs.YtooageeehallbaaW.PrintMore Go.Proofs.Ytooageeehallbaa.QRunsCut
attribute [local go_sem] max2_int min2_int max_two min_two max_three min_three max_four min_four   -- for this text's walks alone
set_option linter.unusedVariables false
set_option linter.unusedSimpArgs false
attribute [local go_sem] run_neq_snil
end Go.Proofs.Ytooageeehallbaa.Scr
namespace Go.Proofs.Ytooageeehallbaa.Scr
open Go.RowKit Go.Proofs.YtooageeehallbaaW.PrintWords Go.Proofs.YtooageeehallbaaW.PrintLast Go.Proofs.YtooageeehallbaaW.PrintMore Go.Proofs.Ytooageeehallbaa.QRunsCut Go.Proofs.Ytooageeehallbaa.Runs
attribute [local go_sem] max2_int min2_int max_two min_two max_three min_three max_four min_four   -- for this text's walks alone
set_option linter.unusedVariables false
set_option linter.unusedSimpArgs false
end Go.Proofs.Ytooageeehallbaa.Scr
