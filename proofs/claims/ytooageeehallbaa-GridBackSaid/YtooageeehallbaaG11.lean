/- Parts of the claim's proof, merged; no condition beyond what each theorem states. -/
import Derived.Test.YtooageeehallbaaG10
import Derived.Laws.IdiomCopy
import Derived.Laws.Slices
import Derived.Laws.Cover3
import Derived.Laws.ResultCell
namespace Go.Proofs.Ytooageeehallbaa.Scr
open Go.RowKit Go.Proofs.YtooageeehallbaaW.PrintWords Go.Proofs.YtooageeehallbaaW.PrintLast Go.Proofs.YtooageeehallbaaW.PrintMore Go.Proofs.Ytooageeehallbaa.QRunsCut
set_option linter.unusedVariables false
set_option linter.unusedSimpArgs false
section
variable {P : Program}
theorem run_copy3 (w : World) (dT sT ty elem : TypeId) (b o dLen dCap : Nat) (a : Addr) (sLen sCap : Nat) (cs : List Value)
 (hu : P.underlying dT = some (.slice elem)) (hs : (P.info? elem).map (·.size) = some 3) (hn : cs.length = Nat.min sLen dLen * 3)
 (hsrc : ∀ j v,cs[j]? = some v → w.cell? (a.add j) = some v) (hc : ∀ j,j < cs.length → (w.cell? ⟨b,o + j,none⟩).isSome = true) (hf : ∀ j,j < cs.length → w.frozen? ⟨b,o + j,none⟩ = false) (h1 : ∀ v ∈ cs,v.oneCell' = true) :
 (Builtin.copy_ #[dT,sT] ty #[.slice (some ⟨b,o,none⟩) dLen dCap,.slice (some a) sLen sCap]).run P w = .ok (goInt (Nat.min sLen dLen : Nat)) (w.setCells b o cs):=by
 have hl:=run_loadCells_list (P:=P) w a cs hsrc;have hst:=run_storeCells_cells (P:=P) b o cs 0 w (by simpa using hc) (by simpa using hf) h1;cases hq : P.info? elem with
|none=>simp [hq] at hs
|some i =>
  have hi : i.size = 3:=by simpa [hq] using hs
  simp [Builtin.copy_,run_underlying hu,Builtin.lenOf,Builtin.firstCells,sizeOf,typeInfo,hq,hi,← hn,hl,hst]
theorem run_copy3_none (w : World) (dT sT ty elem : TypeId) (d a : Option Addr) (dLen dCap sLen sCap : Nat) (hu : P.underlying dT = some (.slice elem)) (hs : (P.info? elem).map (·.size) = some 3) (hn : Nat.min sLen dLen = 0) :
 (Builtin.copy_ #[dT,sT] ty #[.slice d dLen dCap,.slice a sLen sCap]).run P w = .ok (goInt 0) w:=by
 cases hq : P.info? elem with
|none=>simp [hq] at hs
|some i =>
  have hl : ∀ (x : Addr),(loadCells x 0).run P w = .ok #[] w:=fun x=>by simpa using run_loadCells_list (P:=P) w x [] (by simp)
  cases d <;> cases a <;> simp [Builtin.copy_,run_underlying hu,Builtin.lenOf,Builtin.firstCells,sizeOf,typeInfo,hq,hn,storeCells,hl]
end
def copied (xs : List S35) (d s k : Nat) : List S35:=xs.take d ++ (xs.drop s).take k ++ xs.drop (d + k)
theorem inner_one {W : World} {base : Nat} {ok : Nat → Prop} {xs : List S35} {inner : List Value} (hr : Reps (Kd.M k35 W base ok) 3 xs inner) : ∀ v ∈ inner,v.oneCell' = true:=by
 intro v hv;obtain ⟨j,hj,rfl⟩:=List.getElem_of_mem hv;have hl:=hr.1;have hq : j / 3 < xs.length:=by omega
 have h:=hr.2 (j / 3) _ (List.getElem?_eq_getElem hq);have h3:=k35_openM h;have e : inner[j] = ((inner.drop (j / 3 * 3)).take 3)[j % 3]'(by simp only [List.length_take,List.length_drop];omega):=by
  rw [List.getElem_take,List.getElem_drop];congr 1
  omega
 rw [e];have : ∀ (l : List Value) (x : S35),l = [.int .i32 x.f0,.int .u16 x.f1,.int .u8 x.f2] → ∀ k (hk : k < l.length),l[k].oneCell' = true:=by
  intro l x hl k hk;subst hl;match k,hk with
 |0,_=>rfl
 |1,_=>rfl
 |2,_=>rfl
 |k + 3,hk=>exact absurd hk (by simp)
 exact this _ _ h3 _ _
theorem row_copy_run {W : World} {base : Nat} {ok : Nat → Prop} {g n cap : Nat} {xs : List S35} (HR : Kd.R k35 35 W base ok (.slice (some ⟨g,0,none⟩) n cap) xs) {d s m m' c c' : Nat} {A A' : Option Addr} (hA : 0 < m → A = some ⟨g,d * 3,none⟩) (hA' : 0 < m' → A' = some ⟨g,s * 3,none⟩) (h1 : d + m ≤ n) (h2 : s + m' ≤ n) (ty : TypeId) :
 ∃ w1,(Builtin.copy_ #[24,24] ty #[.slice A m c,.slice A' m' c']).run Try.prog W = .ok (goInt ((Nat.min m' m : Nat) : Int)) w1∧W.grownBy w1 (some g)∧Kd.R k35 35 w1 base ok (.slice (some ⟨g,0,none⟩) n cap) (copied xs d s (Nat.min m' m)):=by
 have hs3 : (Try.prog.info? 35).map (·.size) = some 3:=one35;rcases Nat.eq_zero_or_pos (Nat.min m' m) with h0|hp
 ·refine ⟨W,?_,World.grownBy.refl W _,?_⟩
  ·rw [h0];exact run_copy3_none W 24 24 ty 35 A A' m c m' c' Try.underlying24 hs3 h0
  ·rw [h0];unfold copied;rw [List.take_zero,List.append_nil,Nat.add_zero,List.take_append_drop];exact HR
 ·have hm : 0 < m:=Nat.lt_of_lt_of_le hp (Nat.min_le_right _ _);have hm' : 0 < m':=Nat.lt_of_lt_of_le hp (Nat.min_le_left _ _);have hk1 : Nat.min m' m ≤ m:=Nat.min_le_right _ _;have hk2 : Nat.min m' m ≤ m':=Nat.min_le_left _ _;cases hA hm;cases hA' hm';generalize hk : Nat.min m' m = k at hp hk1 hk2 ⊢;have HR':=HR;obtain ⟨hok,inner,ho,hr⟩:=HR;obtain ⟨hl,hcase⟩:=ho;rcases hcase with ⟨hv0,_⟩|⟨g',cap',cur,hv0,hb,hh,hnc,hcm,hcs,htake⟩
  ·cases hv0
  ·injection hv0 with e1 e2 e3
   injection e1 with e1
   injection e1 with e1 _ _
   subst e1 e2 e3;have hsz : k35.sz = 3:=rfl;rw [hsz] at hl hcs htake;have hr' : Reps (Kd.M k35 W base (fun k=>ok k∧some k ≠ some g)) 3 xs inner:=hr;have hcl : ((inner.drop (s * 3)).take (k * 3)).length = k * 3:=by
    simp only [List.length_take,List.length_drop];omega
   have hsrc : ∀ j v,((inner.drop (s * 3)).take (k * 3))[j]? = some v → W.cell? ((⟨g,s * 3,none⟩ : Addr).add j) = some v:=by
    intro j v hv;rw [List.getElem?_take] at hv;split at hv
    ·rename_i hj
     rw [List.getElem?_drop,← htake,List.getElem?_take,if_pos (by omega)] at hv;rw [add_at,zB W g _ cur 35 (0,0) hh,← hv,Array.getElem?_toList]
    ·cases hv
   have hrun:=run_copy3 (P:=Try.prog) W 24 24 ty 35 g (d * 3) m c ⟨g,s * 3,none⟩ m' c' ((inner.drop (s * 3)).take (k * 3)) Try.underlying24 hs3 (by rw [hcl,hk]) hsrc
    (fun j hj=>by rw [zB W g _ cur 35 (0,0) hh];rw [hcl] at hj;simp;omega) (fun j _=>blk_frozen hh _)
    (fun v hv=>inner_one hr' v (List.mem_of_mem_drop (List.mem_of_mem_take hv)))
   have hw:=R_window HR' (d:=d) (ys:=(xs.drop s).take k) (vs:=(inner.drop (s * 3)).take (k * 3)) (Kd.reps_take (Kd.reps_drop hr') (by rw [List.length_drop];omega)) (by rw [List.length_take,List.length_drop];omega);have hyl : ((xs.drop s).take k).length = k:=by rw [List.length_take,List.length_drop];omega
   rw [hyl] at hw;rw [hk] at hrun;exact ⟨_,hrun,hw.2,hw.1⟩
theorem row_copyw {ops : Array Oper} {rest : List Oper} {Q : Exit → Act → World → Prop} {a : Act} {o : Oper} {W : World} {base : Nat} {ok : Nat → Prop} {g n cap : Nat} {xs : List S35} (HR : Kd.R k35 35 W base ok (.slice (some ⟨g,0,none⟩) n cap) xs) {d s m m' c c' : Nat} {A A' : Option Addr} (hA : 0 < m → A = some ⟨g,d * 3,none⟩) (hA' : 0 < m' → A' = some ⟨g,s * 3,none⟩) (h1 : d + m ≤ n) (h2 : s + m' ≤ n)
 (hgd : o.guard = none) {x y : Operand} (ho : o.op = .call { callee:=.builtin .copy,args:=#[x,y],argTypes:=#[24,24] }) (hx : a.eval x = .slice A m c) (hy : a.eval y = .slice A' m' c')
 (h : ∀ w1,W.grownBy w1 (some g) → Kd.R k35 35 w1 base ok (.slice (some ⟨g,0,none⟩) n cap) (copied xs d s (Nat.min m' m)) → wpList Try.prog ops Q rest (a.put o.dst (.int .i64 ((Nat.min m' m : Nat) : Int))) w1) : wpList Try.prog ops Q (o :: rest) a W:=by
 obtain ⟨w1,hr,hg,hR⟩:=row_copy_run HR (c:=c) (c':=c') hA hA' h1 h2 o.type;refine wpList_plain hgd fun K hK=>?_
 unfold Oper.wp execOp;simp only [ho,resolve,invoke,builtin,Sem.run_bind,Sem.run_pure,Result.andThen_ok,zS,zT,zU,hx,hy,hr];exact hK _ _ (h w1 hg hR)
end Go.Proofs.Ytooageeehallbaa.Scr
namespace Go.Proofs.Ytooageeehallbaa.Scr
open Go.RowKit Go.Proofs.YtooageeehallbaaW.PrintWords Go.Proofs.YtooageeehallbaaW.PrintLast Go.Proofs.YtooageeehallbaaW.PrintMore Go.Proofs.Ytooageeehallbaa.QRunsCut
set_option linter.unusedVariables false
set_option linter.unusedSimpArgs false
theorem size35 (W : World) : (sizeOf (Try.prog.elem 24)).run Try.prog W = .ok 3 W:=by
 have h1:=one35;have hel : Try.prog.elem 24 = 35:=by simp [Program.elem,Try.underlying24]
 rw [hel];cases hq : Try.prog.info? 35 with
|none=>simp [hq] at h1
|some i =>
  have hi : i.size = 3:=by simpa [hq] using h1
  simp [sizeOf,typeInfo,hq,hi]
theorem und24 : Try.prog.underlying 24 = some (.slice (Try.prog.elem 24)):=by
 have hel : Try.prog.elem 24 = 35:=by simp [Program.elem,Try.underlying24]
 rw [hel];exact Try.underlying24
def wbase (A : Option Addr) (c lo : Nat) : Option Addr:=if c = lo then A else A.map (·.add (lo * 3))
theorem wbase_at {g d c lo : Nat} (h : lo < c) : wbase (some ⟨g,d * 3,none⟩) c lo = some ⟨g,(d + lo) * 3,none⟩:=by
 unfold wbase;rw [if_neg (by omega),Option.map_some,add_at,Nat.add_mul]
theorem wbase_zero {g c lo : Nat} (h : lo < c) : wbase (some ⟨g,0,none⟩) c lo = some ⟨g,lo * 3,none⟩:=by
 have:=wbase_at (g:=g) (d:=0) h;rwa [Nat.zero_mul,Nat.zero_add] at this
theorem win_lh (A : Option Addr) (n c : Nat) {lo hi : Nat} (h1 : lo ≤ hi) (h2 : hi ≤ c) (W : World) : (Instr.slice 24 (.slice A n c) (some (.int .i64 (lo : Int))) (some (.int .i64 (hi : Int))) none).run Try.prog W = .ok (.slice (wbase A c lo) (hi - lo) (c - lo)) W:=by
 rw [run_slice_lh W 24 A n c und24 .i64 .i64 (lo : Int) (hi : Int) (by omega) (by omega) (by omega),size35];rfl
theorem win_l (A : Option Addr) (n c : Nat) {lo : Nat} (h1 : lo ≤ n) (W : World) : (Instr.slice 24 (.slice A n c) (some (.int .i64 (lo : Int))) none none).run Try.prog W = .ok (.slice (wbase A c lo) (n - lo) (c - lo)) W:=by
 rw [run_slice_l W 24 A n c und24 .i64 (lo : Int) (by omega) (by omega),size35];rfl
theorem win_h (A : Option Addr) (n c : Nat) {hi : Nat} (h1 : hi ≤ c) (W : World) : (Instr.slice 24 (.slice A n c) none (some (.int .i64 (hi : Int))) none).run Try.prog W = .ok (.slice A hi c) W:=by
 rw [run_slice_h W 24 A n c und24 .i64 (hi : Int) (by omega) (by omega),size35];show Result.ok (sliced A 0 hi c 3) W = _
 unfold sliced;rcases A with _|⟨b,o,t⟩
 ·simp
 ·simp [Addr.add]
end Go.Proofs.Ytooageeehallbaa.Scr
namespace Go.Proofs.Ytooageeehallbaa.Scr
open Go.RowKit Go.Proofs.YtooageeehallbaaW.PrintWords Go.Proofs.YtooageeehallbaaW.PrintLast Go.Proofs.YtooageeehallbaaW.PrintMore Go.Proofs.Ytooageeehallbaa.QRunsCut
attribute [local go_sem] max2_int min2_int max_two min_two max_three min_three max_four min_four   -- for this text's walks alone
set_option linter.unusedVariables false
set_option linter.unusedSimpArgs false
theorem wrap64_nat {n : Int} (h : 0 ≤ n∧n ≤ 1000000000) : wrap64 n = n:=by unfold wrap64;omega
theorem size_ok {n : Int} (h : 1 ≤ n∧n ≤ 1000) : grid_size.f n = some true:=by
 unfold grid_size.f;simp [h.1,h.2]
theorem rows_ok {xs : List S35} {R C : Nat} (h : xs.length = R * C) (hR : 1 ≤ R∧R ≤ 1000) (hC : 1 ≤ C∧C ≤ 1000) : grid_rows.f xs (C : Int) = some (R : Int):=by
 have hm : ((xs.length : Nat) : Int) % (C : Int) = 0:=by
  rw [h,Int.natCast_mul];exact Int.mul_emod_left _ _
 have hq : ((xs.length : Nat) : Int) / (C : Int) = (R : Int):=by
  rw [h,Int.natCast_mul];exact Int.mul_ediv_cancel _ (by omega)
 unfold grid_rows.f;rw [size_ok (by omega),zX,if_pos rfl,if_neg (by omega),if_pos hm,hq,wrap64_nat (by omega),size_ok (by omega),zX,if_pos rfl]
theorem within_ok {xs : List S35} {R C T B : Nat} (h : xs.length = R * C) (hR : 1 ≤ R∧R ≤ 1000) (hC : 1 ≤ C∧C ≤ 1000) (hT : T ≤ B∧B < R) : grid_within.f xs (C : Int) (T : Int) (B : Int) = some true:=by
 unfold grid_within.f;rw [rows_ok h hR hC,if_pos (by omega),if_pos (by omega),zX,zC (by omega)]
theorem near_ok {N : Nat} (h : N ≤ 1000) : grid_near.f (N : Int) = some (N : Int):=by
 unfold grid_near.f;unfold mn mx;congr 1
 split <;> split <;> omega
theorem below_ {W w' : World} (h : Drawn0 W w'∨Below W.heap.size W w') : Below W.heap.size W w':=h.elim (fun h=>h.below) id
def upW (xs : List S35) (a len k lk : Nat) : List S35:=filled (copied xs a (a + k) lk) (a + lk) k
def downW (xs : List S35) (a len k lk : Nat) : List S35:=filled (copied xs (a + k) a lk) a k
def upL (xs : List S35) (C T B N : Nat) : List S35:=upW xs (T * C) ((B + 1) * C - T * C) (min (N * C) ((B + 1) * C - T * C)) ((B + 1) * C - T * C - min (N * C) ((B + 1) * C - T * C))
def downL (xs : List S35) (C T B N : Nat) : List S35:=downW xs (T * C) ((B + 1) * C - T * C) (min (N * C) ((B + 1) * C - T * C)) ((B + 1) * C - T * C - min (N * C) ((B + 1) * C - T * C))
theorem clone_call {A : Option Addr} {c : Nat} {xs : List S35} {W : World} (h : Kd.C k35 W A xs.length xs) (hp : 0 < xs.length) (hx : xs.length ≤ 1000000) (hlc : xs.length ≤ c) :
 Calls Try.prog 39 #[.slice A xs.length c] W fun e w'=>∃ gt capt,e = .returned (.slice (some ⟨gt,0,none⟩) xs.length capt)∧(W.heap.size ≤ gt∧xs.length ≤ capt)∧Kd.R k35 35 w' W.heap.size (fun _=>True) (.slice (some ⟨gt,0,none⟩) xs.length capt) xs∧Below W.heap.size W w':=by
 have hf : api_Cell.f xs = some xs:=by
  unfold api_Cell.f;rw [zX,if_pos (by rw [List.length_nil];omega),List.nil_append]
 refine (api_Cell.calls A c xs xs W h hlc hf).mono ?_;rintro e w' ⟨v,rfl,hR,hb⟩
 obtain ⟨gt,capt,rfl,gb_,gl_,cl_⟩:=Kd.R_form hR hp;obtain ⟨x_,_,_,hcap,_⟩:=Row.reads (R_row hR (P:=fun _=>True) trivial);have hn:=(Row.reads (R_row hR (P:=fun x=>x = xs) rfl));obtain ⟨y_,rfl,_,hcap,_⟩:=hn;exact ⟨gt,capt,rfl,⟨gb_,hcap⟩,hR,hb⟩
set_option maxHeartbeats 4000000 in
set_option maxRecDepth 100000 in
theorem gup_call {c : Sl} {xs : List S35} {W : World} {ok : Nat → Prop} (hc : Row k35 c (fun x=>x = xs) W ok) {R C T B N : Nat} (h : xs.length = R * C) (hR0 : 1 ≤ R∧R ≤ 1000) (hC0 : 1 ≤ C∧C ≤ 1000) (hT0 : T ≤ B∧B < R) (hN0 : N ≤ 1000) :
 Calls Try.prog 13 #[.slice c.A c.n c.c,.int .i64 (C : Int),.int .i64 (T : Int),.int .i64 (B : Int),.int .i64 (N : Int)] W fun e w'=>∃ v : Sl,e = .returned (.slice v.A v.n v.c)∧Row k35 v (fun x=>x = upL xs C T B N) w' (fun k=>W.heap.size ≤ k)∧Below W.heap.size W w':=by
 have HB:=zA (zE W.heap.size W);obtain ⟨x_,hx_,hn,hlc0,hC_⟩:=Row.reads hc;subst hx_;rw [hn];have HL:=zA hC_;have hlc:=zA hlc0;have hxs:=zA h;have hR:=zA hR0;have hC:=zA hC0;have hTB:=zA hT0;have hN:=zA hN0;have hRC : R * C ≤ 1000 * 1000:=Nat.mul_le_mul hR0.2 hC0.2;have hTC : T * C ≤ 1000 * 1000:=Nat.mul_le_mul (by omega) hC0.2;have hBC : (B + 1) * C ≤ R * C:=Nat.mul_le_mul (by omega) (Nat.le_refl _);have hNC : N * C ≤ 1000 * 1000:=Nat.mul_le_mul hN0 hC0.2;have hlt : T * C + 1 * C ≤ (B + 1) * C:=by rw [← Nat.add_mul];exact Nat.mul_le_mul (by omega) (Nat.le_refl _)
 have hpos:=zA (show 0 < x_.length by omega);have hmax:=zA (show x_.length ≤ 1000000 by omega);unfold upL;obtain ⟨a,ha⟩ : ∃ a,a = T * C:=⟨_,rfl⟩;obtain ⟨hi,hhi⟩ : ∃ hi,hi = (B + 1) * C:=⟨_,rfl⟩;obtain ⟨nc,hnc⟩ : ∃ nc,nc = N * C:=⟨_,rfl⟩;rw [← ha,← hhi,← hnc];rw [← ha] at hTC hlt;rw [← hhi] at hBC hlt;rw [← hnc] at hNC;obtain ⟨len,hle⟩ : ∃ len,len = hi - a:=⟨_,rfl⟩;obtain ⟨k,hk⟩ : ∃ k,k = min nc len:=⟨_,rfl⟩;obtain ⟨lk,hlk⟩ : ∃ lk,lk = len - k:=⟨_,rfl⟩;obtain ⟨b1,hb1⟩ : ∃ b1,b1 = B + 1:=⟨_,rfl⟩;rw [← hle,← hk,← hlk];have hkl : k ≤ len:=by omega
 have e6 : (if len < nc then (len : Int) else (nc : Int)) = (k : Int):=by split <;> omega
 have e5 : wrap64 ((len : Int) - (k : Int)) = (lk : Int):=by rw [show (len : Int) - (k : Int) = (lk : Int) by omega,wrap64_nat (by omega)]
 have e2 : wrap64 ((B : Int) + 1) = (b1 : Int):=by rw [show (B : Int) + 1 = (b1 : Int) by omega,wrap64_nat (by omega)]
 have b0:=zA (show hi ≤ x_.length by omega);have b2:=zA (show a < hi∧len = hi - a∧k ≤ len∧lk = len - k∧hi ≤ 1000000 by omega);have e1 : wrap64 ((T : Int) * (C : Int)) = (a : Int):=by rw [ha,Int.natCast_mul,wrap64_nat (by rw [← Int.natCast_mul];omega)]
 have e3 : wrap64 ((b1 : Int) * (C : Int)) = (hi : Int):=by rw [hhi,hb1,Int.natCast_mul,wrap64_nat (by rw [← Int.natCast_mul];omega)]
 have e4 : wrap64 ((N : Int) * (C : Int)) = (nc : Int):=by rw [hnc,Int.natCast_mul,wrap64_nat (by rw [← Int.natCast_mul];omega)]
 clear h hc hC_ hlc0 hR0 hC0 hT0 hN0 hRC hTC hBC hNC hlt hkl ha hhi hnc hb1 hlk hk hle;have hcap:=zA trivial;go_enter Try.func13,Try.ntmps13
 go_upto_region 3 with (first|((with_reducible refine zG (N:=15) rfl ?_);refine goesL_ (some 15) rfl rfl Try.func39 (by kernel_rfl) rfl _ rfl rfl ?_;(try simp only [zS,zT,zU]);have e_:=clone_call (A:=c.A) (c:=c.c) HL.out hpos.out hmax.out hlc.out;refine Calls.mono e_ ?_;clear e_;rintro e w15 ⟨gt,capt,rfl,hb0,ho,hb⟩;replace hcap:=zA (hb0.2);have HT:=zA (Kd.R_lower ho HB.out.size);replace HL:=zA (Kd.C_below HL.out hb);replace HB:=zA (zJ HB.out HB.out.size hb);clear hb ho hb0;refine ⟨_,rfl,?_⟩)|((with_reducible refine zG (N:=20) rfl ?_);refine goesL_ (some 20) rfl rfl Try.func40 (by kernel_rfl) rfl _ rfl rfl ?_;(try simp only [zS,zT,zU]);have e_:=grid_within.calls c.A c.c x_ (C : Int) (T : Int) (B : Int) true _ HL.out hlc.out (within_ok hxs.out hR.out hC.out hTB.out);refine Calls.mono e_ ?_;clear e_;rintro e w20 ⟨rfl,hb⟩;replace hb:=below_ (by first|exact .inl hb|exact .inr hb);replace HT:=zA (Kd.R_below HT.out hb);(try replace HL:=zA (Kd.C_below HL.out hb));replace HB:=zA (zJ HB.out HB.out.size hb);clear hb;refine ⟨_,rfl,?_⟩)|((with_reducible refine zG (N:=31) rfl ?_);refine goesL_ (some 31) rfl rfl Try.func41 (by kernel_rfl) rfl _ rfl rfl ?_;(try simp only [zS,zT,zU]);refine Calls.mono (grid_near.calls (N : Int) (N : Int) _ (near_ok hN.out)) ?_;rintro e w31 ⟨rfl,hb⟩;replace hb:=below_ (by first|exact .inl hb|exact .inr hb);replace HT:=zA (Kd.R_below HT.out hb);(try replace HL:=zA (Kd.C_below HL.out hb));replace HB:=zA (zJ HB.out HB.out.size hb);clear hb;refine ⟨_,rfl,?_⟩)|((with_reducible refine zG (N:=41) rfl ?_);refine row_copyw HT.out (d:=a) (s:=a + k) (m:=len) (m':=lk) (fun _=>rfl) hA2'.out (by have:=b2.out;have:=b0.out;omega) (by have:=b2.out;have:=b0.out;omega) rfl rfl rfl rfl ?_;intro w41 hg ho;replace HB:=zA (hb_own HB.out HT.out hg);replace HT:=zA ho;clear hg ho)|((with_reducible refine zG (N:=48) rfl ?_);refine goesL_ (some 48) rfl rfl Try.func42 (by kernel_rfl) rfl _ rfl rfl ?_;(try simp only [zS,zT,zU]);refine Calls.mono (fill_call HT.out (lo:=a + lk) (m:=k) hA3'.out (by have:=b2.out;have:=b0.out;omega)) ?_;rintro e w48 ⟨rfl,hg,ho⟩;replace HB:=zA (hb_own HB.out HT.out hg);replace HT:=zA ho;clear hg ho;refine ⟨_,rfl,?_⟩))
 have q1:=fun W=>win_lh (some ⟨gt,0,none⟩) x_.length capt (lo:=a) (hi:=hi) (by have:=b2.out;omega) (by have:=b0.out;have:=hcap.out;omega) W
 have q1b : hi - a = len:=by have:=b2.out;omega
 rw [wbase_zero (by have:=b2.out;have:=b0.out;have:=hcap.out;omega),q1b] at q1;obtain ⟨c1,hc1⟩ : ∃ c1,c1 = capt - a:=⟨_,rfl⟩;rw [← hc1] at q1;have b3:=zA (show len ≤ c1 by have:=b2.out;have:=b0.out;have:=hcap.out;omega);clear hc1 q1b;have q2:=fun W=>win_l (some ⟨gt,a * 3,none⟩) len c1 (lo:=k) (by have:=b2.out;omega) W
 obtain ⟨A2,hA2⟩ : ∃ A2,A2 = wbase (some ⟨gt,a * 3,none⟩) c1 k:=⟨_,rfl⟩;have q2b : len - k = lk:=by have:=b2.out;omega
 rw [← hA2,q2b] at q2;have hA2':=zA (show 0 < lk → A2 = some ⟨gt,(a + k) * 3,none⟩ from fun h0=>by rw [hA2,wbase_at (by have:=b2.out;have:=b3.out;omega)]);clear hA2 q2b;have q3:=fun W=>win_l (some ⟨gt,a * 3,none⟩) len c1 (lo:=lk) (by have:=b2.out;omega) W
 obtain ⟨A3,hA3⟩ : ∃ A3,A3 = wbase (some ⟨gt,a * 3,none⟩) c1 lk:=⟨_,rfl⟩;have q3b : len - lk = k:=by have:=b2.out;omega
 rw [← hA3,q3b] at q3;have hA3':=zA (show 0 < k → A3 = some ⟨gt,(a + lk) * 3,none⟩ from fun h0=>by rw [hA3,wbase_at (by have:=b2.out;have:=b3.out;omega)]);clear hA3 q3b;go_wp2_with (first|((with_reducible refine zG (N:=15) rfl ?_);refine goesL_ (some 15) rfl rfl Try.func39 (by kernel_rfl) rfl _ rfl rfl ?_;(try simp only [zS,zT,zU]);have e_:=clone_call (A:=c.A) (c:=c.c) HL.out hpos.out hmax.out hlc.out;refine Calls.mono e_ ?_;clear e_;rintro e w15 ⟨gt,capt,rfl,hb0,ho,hb⟩;replace hcap:=zA (hb0.2);have HT:=zA (Kd.R_lower ho HB.out.size);replace HL:=zA (Kd.C_below HL.out hb);replace HB:=zA (zJ HB.out HB.out.size hb);clear hb ho hb0;refine ⟨_,rfl,?_⟩)|((with_reducible refine zG (N:=20) rfl ?_);refine goesL_ (some 20) rfl rfl Try.func40 (by kernel_rfl) rfl _ rfl rfl ?_;(try simp only [zS,zT,zU]);have e_:=grid_within.calls c.A c.c x_ (C : Int) (T : Int) (B : Int) true _ HL.out hlc.out (within_ok hxs.out hR.out hC.out hTB.out);refine Calls.mono e_ ?_;clear e_;rintro e w20 ⟨rfl,hb⟩;replace hb:=below_ (by first|exact .inl hb|exact .inr hb);replace HT:=zA (Kd.R_below HT.out hb);(try replace HL:=zA (Kd.C_below HL.out hb));replace HB:=zA (zJ HB.out HB.out.size hb);clear hb;refine ⟨_,rfl,?_⟩)|((with_reducible refine zG (N:=31) rfl ?_);refine goesL_ (some 31) rfl rfl Try.func41 (by kernel_rfl) rfl _ rfl rfl ?_;(try simp only [zS,zT,zU]);refine Calls.mono (grid_near.calls (N : Int) (N : Int) _ (near_ok hN.out)) ?_;rintro e w31 ⟨rfl,hb⟩;replace hb:=below_ (by first|exact .inl hb|exact .inr hb);replace HT:=zA (Kd.R_below HT.out hb);(try replace HL:=zA (Kd.C_below HL.out hb));replace HB:=zA (zJ HB.out HB.out.size hb);clear hb;refine ⟨_,rfl,?_⟩)|((with_reducible refine zG (N:=41) rfl ?_);refine row_copyw HT.out (d:=a) (s:=a + k) (m:=len) (m':=lk) (fun _=>rfl) hA2'.out (by have:=b2.out;have:=b0.out;omega) (by have:=b2.out;have:=b0.out;omega) rfl rfl rfl rfl ?_;intro w41 hg ho;replace HB:=zA (hb_own HB.out HT.out hg);replace HT:=zA ho;clear hg ho)|((with_reducible refine zG (N:=48) rfl ?_);refine goesL_ (some 48) rfl rfl Try.func42 (by kernel_rfl) rfl _ rfl rfl ?_;(try simp only [zS,zT,zU]);refine Calls.mono (fill_call HT.out (lo:=a + lk) (m:=k) hA3'.out (by have:=b2.out;have:=b0.out;omega)) ?_;rintro e w48 ⟨rfl,hg,ho⟩;replace HB:=zA (hb_own HB.out HT.out hg);replace HT:=zA ho;clear hg ho;refine ⟨_,rfl,?_⟩));have em : (Nat.min lk len) = lk:=by
  have:=b2.out;first|exact Nat.min_eq_left (by omega)|exact Nat.min_eq_right (by omega)
 have HT2:=HT.out;rw [em] at HT2;go_ret;obtain ⟨v,hv,hr⟩:=Row.made (P:=fun x=>x = upW x_ a len k lk) HT2 rfl;exact ⟨v,by rw [← hv];rfl,hr,HB.out⟩
set_option maxHeartbeats 4000000 in
set_option maxRecDepth 100000 in
theorem gdown_call {c : Sl} {xs : List S35} {W : World} {ok : Nat → Prop} (hc : Row k35 c (fun x=>x = xs) W ok) {R C T B N : Nat} (h : xs.length = R * C) (hR0 : 1 ≤ R∧R ≤ 1000) (hC0 : 1 ≤ C∧C ≤ 1000) (hT0 : T ≤ B∧B < R) (hN0 : N ≤ 1000) :
 Calls Try.prog 12 #[.slice c.A c.n c.c,.int .i64 (C : Int),.int .i64 (T : Int),.int .i64 (B : Int),.int .i64 (N : Int)] W fun e w'=>∃ v : Sl,e = .returned (.slice v.A v.n v.c)∧Row k35 v (fun x=>x = downL xs C T B N) w' (fun k=>W.heap.size ≤ k)∧Below W.heap.size W w':=by
 have HB:=zA (zE W.heap.size W);obtain ⟨x_,hx_,hn,hlc0,hC_⟩:=Row.reads hc;subst hx_;rw [hn];have HL:=zA hC_;have hlc:=zA hlc0;have hxs:=zA h;have hR:=zA hR0;have hC:=zA hC0;have hTB:=zA hT0;have hN:=zA hN0;have hRC : R * C ≤ 1000 * 1000:=Nat.mul_le_mul hR0.2 hC0.2;have hTC : T * C ≤ 1000 * 1000:=Nat.mul_le_mul (by omega) hC0.2;have hBC : (B + 1) * C ≤ R * C:=Nat.mul_le_mul (by omega) (Nat.le_refl _);have hNC : N * C ≤ 1000 * 1000:=Nat.mul_le_mul hN0 hC0.2;have hlt : T * C + 1 * C ≤ (B + 1) * C:=by rw [← Nat.add_mul];exact Nat.mul_le_mul (by omega) (Nat.le_refl _)
 have hpos:=zA (show 0 < x_.length by omega);have hmax:=zA (show x_.length ≤ 1000000 by omega);unfold downL;obtain ⟨a,ha⟩ : ∃ a,a = T * C:=⟨_,rfl⟩;obtain ⟨hi,hhi⟩ : ∃ hi,hi = (B + 1) * C:=⟨_,rfl⟩;obtain ⟨nc,hnc⟩ : ∃ nc,nc = N * C:=⟨_,rfl⟩;rw [← ha,← hhi,← hnc];rw [← ha] at hTC hlt;rw [← hhi] at hBC hlt;rw [← hnc] at hNC;obtain ⟨len,hle⟩ : ∃ len,len = hi - a:=⟨_,rfl⟩;obtain ⟨k,hk⟩ : ∃ k,k = min nc len:=⟨_,rfl⟩;obtain ⟨lk,hlk⟩ : ∃ lk,lk = len - k:=⟨_,rfl⟩;obtain ⟨b1,hb1⟩ : ∃ b1,b1 = B + 1:=⟨_,rfl⟩;rw [← hle,← hk,← hlk];have hkl : k ≤ len:=by omega
 have e6 : (if len < nc then (len : Int) else (nc : Int)) = (k : Int):=by split <;> omega
 have e5 : wrap64 ((len : Int) - (k : Int)) = (lk : Int):=by rw [show (len : Int) - (k : Int) = (lk : Int) by omega,wrap64_nat (by omega)]
 have e2 : wrap64 ((B : Int) + 1) = (b1 : Int):=by rw [show (B : Int) + 1 = (b1 : Int) by omega,wrap64_nat (by omega)]
 have b0:=zA (show hi ≤ x_.length by omega);have b2:=zA (show a < hi∧len = hi - a∧k ≤ len∧lk = len - k∧hi ≤ 1000000 by omega);have e1 : wrap64 ((T : Int) * (C : Int)) = (a : Int):=by rw [ha,Int.natCast_mul,wrap64_nat (by rw [← Int.natCast_mul];omega)]
 have e3 : wrap64 ((b1 : Int) * (C : Int)) = (hi : Int):=by rw [hhi,hb1,Int.natCast_mul,wrap64_nat (by rw [← Int.natCast_mul];omega)]
 have e4 : wrap64 ((N : Int) * (C : Int)) = (nc : Int):=by rw [hnc,Int.natCast_mul,wrap64_nat (by rw [← Int.natCast_mul];omega)]
 clear h hc hC_ hlc0 hR0 hC0 hT0 hN0 hRC hTC hBC hNC hlt hkl ha hhi hnc hb1 hlk hk hle;have hcap:=zA trivial;go_enter Try.func12,Try.ntmps12
 go_upto_region 3 with (first|((with_reducible refine zG (N:=15) rfl ?_);refine goesL_ (some 15) rfl rfl Try.func39 (by kernel_rfl) rfl _ rfl rfl ?_;(try simp only [zS,zT,zU]);have e_:=clone_call (A:=c.A) (c:=c.c) HL.out hpos.out hmax.out hlc.out;refine Calls.mono e_ ?_;clear e_;rintro e w15 ⟨gt,capt,rfl,hb0,ho,hb⟩;replace hcap:=zA (hb0.2);have HT:=zA (Kd.R_lower ho HB.out.size);replace HL:=zA (Kd.C_below HL.out hb);replace HB:=zA (zJ HB.out HB.out.size hb);clear hb ho hb0;refine ⟨_,rfl,?_⟩)|((with_reducible refine zG (N:=20) rfl ?_);refine goesL_ (some 20) rfl rfl Try.func40 (by kernel_rfl) rfl _ rfl rfl ?_;(try simp only [zS,zT,zU]);have e_:=grid_within.calls c.A c.c x_ (C : Int) (T : Int) (B : Int) true _ HL.out hlc.out (within_ok hxs.out hR.out hC.out hTB.out);refine Calls.mono e_ ?_;clear e_;rintro e w20 ⟨rfl,hb⟩;replace hb:=below_ (by first|exact .inl hb|exact .inr hb);replace HT:=zA (Kd.R_below HT.out hb);(try replace HL:=zA (Kd.C_below HL.out hb));replace HB:=zA (zJ HB.out HB.out.size hb);clear hb;refine ⟨_,rfl,?_⟩)|((with_reducible refine zG (N:=31) rfl ?_);refine goesL_ (some 31) rfl rfl Try.func41 (by kernel_rfl) rfl _ rfl rfl ?_;(try simp only [zS,zT,zU]);refine Calls.mono (grid_near.calls (N : Int) (N : Int) _ (near_ok hN.out)) ?_;rintro e w31 ⟨rfl,hb⟩;replace hb:=below_ (by first|exact .inl hb|exact .inr hb);replace HT:=zA (Kd.R_below HT.out hb);(try replace HL:=zA (Kd.C_below HL.out hb));replace HB:=zA (zJ HB.out HB.out.size hb);clear hb;refine ⟨_,rfl,?_⟩)|((with_reducible refine zG (N:=41) rfl ?_);refine row_copyw HT.out (d:=a + k) (s:=a) (m:=lk) (m':=len) hA2'.out (fun _=>rfl) (by have:=b2.out;have:=b0.out;omega) (by have:=b2.out;have:=b0.out;omega) rfl rfl rfl rfl ?_;intro w41 hg ho;replace HB:=zA (hb_own HB.out HT.out hg);replace HT:=zA ho;clear hg ho)|((with_reducible refine zG (N:=45) rfl ?_);refine goesL_ (some 45) rfl rfl Try.func42 (by kernel_rfl) rfl _ rfl rfl ?_;(try simp only [zS,zT,zU]);refine Calls.mono (fill_call HT.out (lo:=a) (m:=k) (fun _=>rfl) (by have:=b2.out;have:=b0.out;omega)) ?_;rintro e w45 ⟨rfl,hg,ho⟩;replace HB:=zA (hb_own HB.out HT.out hg);replace HT:=zA ho;clear hg ho;refine ⟨_,rfl,?_⟩))
 have q1:=fun W=>win_lh (some ⟨gt,0,none⟩) x_.length capt (lo:=a) (hi:=hi) (by have:=b2.out;omega) (by have:=b0.out;have:=hcap.out;omega) W
 have q1b : hi - a = len:=by have:=b2.out;omega
 rw [wbase_zero (by have:=b2.out;have:=b0.out;have:=hcap.out;omega),q1b] at q1;obtain ⟨c1,hc1⟩ : ∃ c1,c1 = capt - a:=⟨_,rfl⟩;rw [← hc1] at q1;have b3:=zA (show len ≤ c1 by have:=b2.out;have:=b0.out;have:=hcap.out;omega);clear hc1 q1b;have q2:=fun W=>win_l (some ⟨gt,a * 3,none⟩) len c1 (lo:=k) (by have:=b2.out;omega) W
 obtain ⟨A2,hA2⟩ : ∃ A2,A2 = wbase (some ⟨gt,a * 3,none⟩) c1 k:=⟨_,rfl⟩;have q2b : len - k = lk:=by have:=b2.out;omega
 rw [← hA2,q2b] at q2;have hA2':=zA (show 0 < lk → A2 = some ⟨gt,(a + k) * 3,none⟩ from fun h0=>by rw [hA2,wbase_at (by have:=b2.out;have:=b3.out;omega)]);clear hA2 q2b;have q3:=fun W=>win_h (some ⟨gt,a * 3,none⟩) len c1 (hi:=k) (by have:=b2.out;have:=b3.out;omega) W
 go_wp2_with (first|((with_reducible refine zG (N:=15) rfl ?_);refine goesL_ (some 15) rfl rfl Try.func39 (by kernel_rfl) rfl _ rfl rfl ?_;(try simp only [zS,zT,zU]);have e_:=clone_call (A:=c.A) (c:=c.c) HL.out hpos.out hmax.out hlc.out;refine Calls.mono e_ ?_;clear e_;rintro e w15 ⟨gt,capt,rfl,hb0,ho,hb⟩;replace hcap:=zA (hb0.2);have HT:=zA (Kd.R_lower ho HB.out.size);replace HL:=zA (Kd.C_below HL.out hb);replace HB:=zA (zJ HB.out HB.out.size hb);clear hb ho hb0;refine ⟨_,rfl,?_⟩)|((with_reducible refine zG (N:=20) rfl ?_);refine goesL_ (some 20) rfl rfl Try.func40 (by kernel_rfl) rfl _ rfl rfl ?_;(try simp only [zS,zT,zU]);have e_:=grid_within.calls c.A c.c x_ (C : Int) (T : Int) (B : Int) true _ HL.out hlc.out (within_ok hxs.out hR.out hC.out hTB.out);refine Calls.mono e_ ?_;clear e_;rintro e w20 ⟨rfl,hb⟩;replace hb:=below_ (by first|exact .inl hb|exact .inr hb);replace HT:=zA (Kd.R_below HT.out hb);(try replace HL:=zA (Kd.C_below HL.out hb));replace HB:=zA (zJ HB.out HB.out.size hb);clear hb;refine ⟨_,rfl,?_⟩)|((with_reducible refine zG (N:=31) rfl ?_);refine goesL_ (some 31) rfl rfl Try.func41 (by kernel_rfl) rfl _ rfl rfl ?_;(try simp only [zS,zT,zU]);refine Calls.mono (grid_near.calls (N : Int) (N : Int) _ (near_ok hN.out)) ?_;rintro e w31 ⟨rfl,hb⟩;replace hb:=below_ (by first|exact .inl hb|exact .inr hb);replace HT:=zA (Kd.R_below HT.out hb);(try replace HL:=zA (Kd.C_below HL.out hb));replace HB:=zA (zJ HB.out HB.out.size hb);clear hb;refine ⟨_,rfl,?_⟩)|((with_reducible refine zG (N:=41) rfl ?_);refine row_copyw HT.out (d:=a + k) (s:=a) (m:=lk) (m':=len) hA2'.out (fun _=>rfl) (by have:=b2.out;have:=b0.out;omega) (by have:=b2.out;have:=b0.out;omega) rfl rfl rfl rfl ?_;intro w41 hg ho;replace HB:=zA (hb_own HB.out HT.out hg);replace HT:=zA ho;clear hg ho)|((with_reducible refine zG (N:=45) rfl ?_);refine goesL_ (some 45) rfl rfl Try.func42 (by kernel_rfl) rfl _ rfl rfl ?_;(try simp only [zS,zT,zU]);refine Calls.mono (fill_call HT.out (lo:=a) (m:=k) (fun _=>rfl) (by have:=b2.out;have:=b0.out;omega)) ?_;rintro e w45 ⟨rfl,hg,ho⟩;replace HB:=zA (hb_own HB.out HT.out hg);replace HT:=zA ho;clear hg ho;refine ⟨_,rfl,?_⟩));have em : (Nat.min len lk) = lk:=by
  have:=b2.out;first|exact Nat.min_eq_left (by omega)|exact Nat.min_eq_right (by omega)
 have HT2:=HT.out;rw [em] at HT2;go_ret;obtain ⟨v,hv,hr⟩:=Row.made (P:=fun x=>x = downW x_ a len k lk) HT2 rfl;exact ⟨v,by rw [← hv];rfl,hr,HB.out⟩
end Go.Proofs.Ytooageeehallbaa.Scr
namespace Go.Proofs.Ytooageeehallbaa.Scr
open Go.RowKit Go.Proofs.YtooageeehallbaaW.PrintWords Go.Proofs.YtooageeehallbaaW.PrintLast Go.Proofs.YtooageeehallbaaW.PrintMore Go.Proofs.Ytooageeehallbaa.QRunsCut
attribute [local go_sem] max2_int min2_int max_two min_two max_three min_three max_four min_four   -- for this text's walks alone
set_option linter.unusedVariables false
set_option linter.unusedSimpArgs false
theorem filled_all {z : S35} {m : Nat} : filled (List.replicate m z) 0 m = List.replicate m blk:=by
 unfold filled;rw [List.take_zero,List.nil_append,Nat.zero_add,List.drop_replicate,Nat.sub_self,List.replicate_zero,List.append_nil]
set_option maxHeartbeats 4000000 in
set_option maxRecDepth 100000 in
theorem gblank_call (W : World) {R C : Nat} (hR : 1 ≤ R∧R ≤ 1000) (hC : 1 ≤ C∧C ≤ 1000) :
 Calls Try.prog 34 #[.int .i64 (R : Int),.int .i64 (C : Int)] W fun e w'=>∃ gt capt,e = .returned (.slice (some ⟨gt,0,none⟩) (R * C) capt)∧W.heap.size ≤ gt∧Kd.R k35 35 w' W.heap.size (fun _=>True) (.slice (some ⟨gt,0,none⟩) (R * C) capt) (List.replicate (R * C) blk)∧Below W.heap.size W w':=by
 have HB:=zA (zE W.heap.size W);have h1 : R * C ≤ 1000 * 1000:=Nat.mul_le_mul hR.2 hC.2;have h2 : 1 * 1 ≤ R * C:=Nat.mul_le_mul hR.1 hC.1;have hR1:=zA (show (1 : Int) ≤ (R : Int)∧(R : Int) ≤ 1000 by omega);have hC1:=zA (show (1 : Int) ≤ (C : Int)∧(C : Int) ≤ 1000 by omega);obtain ⟨m,hm⟩ : ∃ m,m = R * C:=⟨_,rfl⟩;rw [← hm] at h1 h2;have e1 : wrap64 ((R : Int) * (C : Int)) = (m : Int):=by rw [hm,Int.natCast_mul,wrap64_nat (by rw [← Int.natCast_mul];omega)]
 rw [← hm];have hmm:=zA (And.intro h1 h2);clear h1 h2 hR hC hm;go_enter Try.func34,Try.ntmps34
 go_upto_region 3 with (first|((with_reducible refine zG (N:=7) rfl ?_);refine goesL_ (some 7) rfl rfl Try.func43 (by kernel_rfl) rfl _ rfl rfl ?_;(try simp only [zS,zT,zU]);refine Calls.mono (grid_size.calls (R : Int) true _ (size_ok hR1.out)) ?_;rintro e w7 ⟨rfl,hb⟩;replace HB:=zA (zJ HB.out HB.out.size hb.below);clear hb;refine ⟨_,rfl,?_⟩)|((with_reducible refine zG (N:=17) rfl ?_);refine Kd.R_make k35 _ 35 rfl (N:=17) rfl 24 _ _ rfl _ rfl rfl Try.underlying24 (.agg #[(.int .i32 0),(.int .u16 0),(.int .u8 0)]) 8 info35 rfl (by decide) (by omega) z35 (ok:=fun _=>True) (okp:=fun _=>True) (k35_mkM _ _ _ z35) (fun _ hk=>hk) trivial (by omega) (by have:=hmm.out;omega) (zE _ _) (Nat.le_refl _) ?_;intro v17 w17 ho hb hg_ hnew_;clear hg_ hnew_;(try rw [e1] at ho);rw [Int.toNat_natCast] at ho;have hfm:=Kd.R_form ho (by rw [List.length_replicate];have:=hmm.out;omega);rw [List.length_replicate] at hfm;obtain ⟨gt,capt,rfl,gb_,gl_,cl_⟩:=hfm;clear gl_ cl_;have hgt:=zA (Nat.le_trans HB.out.size gb_);have HT:=zA (Kd.R_lower ho HB.out.size);replace HB:=zA (zJ HB.out HB.out.size hb);clear hb ho gb_)|((with_reducible refine zG (N:=19) rfl ?_);refine goesL_ (some 19) rfl rfl Try.func42 (by kernel_rfl) rfl _ rfl rfl ?_;(try simp only [zS,zT,zU]);refine Calls.mono (fill_call HT.out (lo:=0) (m:=m) (fun _=>rfl) (by omega)) ?_;rintro e w19 ⟨rfl,hg,ho⟩;replace HB:=zA (hb_own HB.out HT.out hg);replace HT:=zA ho;clear hg ho;refine ⟨_,rfl,?_⟩))
 refine Calls.mono (grid_size.calls (C : Int) true _ (size_ok hC1.out)) ?_;rintro e w11 ⟨rfl,hb⟩
 replace HB:=zA (zJ HB.out HB.out.size hb.below);clear hb;go_wp2_with (first|((with_reducible refine zG (N:=7) rfl ?_);refine goesL_ (some 7) rfl rfl Try.func43 (by kernel_rfl) rfl _ rfl rfl ?_;(try simp only [zS,zT,zU]);refine Calls.mono (grid_size.calls (R : Int) true _ (size_ok hR1.out)) ?_;rintro e w7 ⟨rfl,hb⟩;replace HB:=zA (zJ HB.out HB.out.size hb.below);clear hb;refine ⟨_,rfl,?_⟩)|((with_reducible refine zG (N:=17) rfl ?_);refine Kd.R_make k35 _ 35 rfl (N:=17) rfl 24 _ _ rfl _ rfl rfl Try.underlying24 (.agg #[(.int .i32 0),(.int .u16 0),(.int .u8 0)]) 8 info35 rfl (by decide) (by omega) z35 (ok:=fun _=>True) (okp:=fun _=>True) (k35_mkM _ _ _ z35) (fun _ hk=>hk) trivial (by omega) (by have:=hmm.out;omega) (zE _ _) (Nat.le_refl _) ?_;intro v17 w17 ho hb hg_ hnew_;clear hg_ hnew_;(try rw [e1] at ho);rw [Int.toNat_natCast] at ho;have hfm:=Kd.R_form ho (by rw [List.length_replicate];have:=hmm.out;omega);rw [List.length_replicate] at hfm;obtain ⟨gt,capt,rfl,gb_,gl_,cl_⟩:=hfm;clear gl_ cl_;have hgt:=zA (Nat.le_trans HB.out.size gb_);have HT:=zA (Kd.R_lower ho HB.out.size);replace HB:=zA (zJ HB.out HB.out.size hb);clear hb ho gb_)|((with_reducible refine zG (N:=19) rfl ?_);refine goesL_ (some 19) rfl rfl Try.func42 (by kernel_rfl) rfl _ rfl rfl ?_;(try simp only [zS,zT,zU]);refine Calls.mono (fill_call HT.out (lo:=0) (m:=m) (fun _=>rfl) (by omega)) ?_;rintro e w19 ⟨rfl,hg,ho⟩;replace HB:=zA (hb_own HB.out HT.out hg);replace HT:=zA ho;clear hg ho;refine ⟨_,rfl,?_⟩));have HT2:=HT.out;rw [filled_all] at HT2;go_ret;exact ⟨gt,capt,rfl,hgt.out,HT2,HB.out⟩
theorem row_r {P : Program} {ops : Array Oper} {rest : List Oper} {Q : Exit → Act → World → Prop} {a : Act} {o : Oper} {W : World} {base : Nat} {ok : Nat → Prop} {g n cap : Nat} {xs : List S35} (HR : Kd.R k35 35 W base ok (.slice (some ⟨g,0,none⟩) n cap) xs) {i : Int} (h0 : 0 ≤ i) (h1 : i < n) (hgd : o.guard = none) (hd : o.dst = none) {x y : Operand} (ho : o.op = .store 21 x y) (hx : a.eval x = .pointer (some ⟨g,i.toNat * 3,none⟩))
 {h : Int} (hy : a.eval y = .int .i32 h) (hi : (P.info? 21).map (·.size) = some 1)
 (K : ∀ w1,W.grownBy w1 (some g) → Kd.R k35 35 w1 base ok (.slice (some ⟨g,0,none⟩) n cap) (xs.set i.toNat ⟨h,(rd_T35 xs i).f1,(rd_T35 xs i).f2⟩) → wpList P ops Q rest a w1) : wpList P ops Q (o :: rest) a W:=by
 obtain ⟨c,hcl,hM,hcc,hfr⟩:=Kd.R_elem HR z35 i h0 h1;obtain rfl:=k35_openM hM;have hcell:=hcc 0 _ rfl;have hfro:=hfr 0;rw [Nat.add_zero] at hcell hfro;have hst : (store (⟨g,i.toNat * 3,none⟩ : Addr) (.int .i32 h)).run P W = .ok () (W.setCell ⟨g,i.toNat * 3,none⟩ (.int .i32 h)):=by
  rw [run_store P W _ _ _ rfl];have e1 : W.cell? ⟨g,i.toNat * 3,none⟩ = _:=hcell;have e2 : W.frozen? ⟨g,i.toNat * 3,none⟩ = false:=hfro;rw [e1,e2];rfl
 have hadd : (⟨g,i.toNat * 3,none⟩ : Addr).add 0 = ⟨g,i.toNat * 3,none⟩:=by unfold Addr.add;split <;> simp_all
 have hp:=Kd.R_seg HR i h0 h1 (seg:=[.int .i32 h]) (j:=0) hcl hcc (show 0 + 1 ≤ 3 from by decide) (x':=(⟨h,(rd_T35 xs i).f1,(rd_T35 xs i).f2⟩ : S35)) (okp:=fun k=>ok k∧k ≠ g) (k35_mkM _ _ _ (⟨h,(rd_T35 xs i).f1,(rd_T35 xs i).f2⟩ : S35)) (fun _ hk=>hk);have hk:=K _ hp.2 hp.1;cases hq : P.info? 21 with
|none=>simp [hq] at hi
|some i5 =>
  have hsz : i5.size = 1:=by simpa [hq] using hi
  have hsv : (storeVar 21 (⟨g,i.toNat * 3,none⟩ : Addr) (.int .i32 h)).run P W = .ok () (W.setCell ⟨g,i.toNat * 3,none⟩ (.int .i32 h)):=by
   simp [storeVar,sizeOf,typeInfo,hq,hsz,Value.cells,storeCells,hadd,hst]
  refine wpList_plain hgd fun K2 hK2=>?_
  unfold Oper.wp execOp;simp only [ho,hx,hy,Instr.storeAt,Instr.sureAddr,Sem.run_bind,Sem.run_pure,Result.andThen_ok,hsv];show K2 (a.put o.dst undef) _
  have hput : a.put o.dst undef = a:=by rw [hd];rfl
  rw [hput];exact hK2 _ _ hk
theorem one21' : (Try.prog.info? 21).map (·.size) = some 1:=by kernel_rfl
end Go.Proofs.Ytooageeehallbaa.Scr
namespace Go.Proofs.Ytooageeehallbaa.Scr
open Go.RowKit Go.Proofs.YtooageeehallbaaW.PrintWords Go.Proofs.YtooageeehallbaaW.PrintLast Go.Proofs.YtooageeehallbaaW.PrintMore Go.Proofs.Ytooageeehallbaa.QRunsCut
attribute [local go_sem] max2_int min2_int max_two min_two max_three min_three max_four min_four   -- for this text's walks alone
set_option linter.unusedVariables false
set_option linter.unusedSimpArgs false
theorem blank22 (W : World) : Calls Try.prog 34 #[.int .i64 2,.int .i64 2] W fun e w'=>∃ gt capt,e = .returned (.slice (some ⟨gt,0,none⟩) 4 capt)∧W.heap.size ≤ gt∧Kd.R k35 35 w' W.heap.size (fun _=>True) (.slice (some ⟨gt,0,none⟩) 4 capt) [blk,blk,blk,blk]∧Below W.heap.size W w' :=
 gblank_call W (R:=2) (C:=2) (by decide) (by decide)
theorem up22 {A : Option Addr} {n c : Nat} {W : World} {ok : Nat → Prop} (hc : Row k35 ⟨A,n,c⟩ (fun x=>x = [blk,blk,⟨120,0,0⟩,blk]) W ok) :
 Calls Try.prog 13 #[.slice A n c,.int .i64 2,.int .i64 0,.int .i64 1,.int .i64 1] W fun e w'=>∃ v : Sl,e = .returned (.slice v.A v.n v.c)∧Row k35 v (fun x=>x = [⟨120,0,0⟩,blk,blk,blk]) w' (fun k=>W.heap.size ≤ k)∧Below W.heap.size W w' :=
 gup_call (R:=2) (C:=2) (T:=0) (B:=1) (N:=1) hc rfl (by decide) (by decide) (by decide) (by decide)
set_option maxHeartbeats 4000000 in
set_option maxRecDepth 100000 in
theorem known8_call (W : World) : Calls Try.prog 10 #[] W fun e w'=>e = .returned (.bool true)∧Below W.heap.size W w':=by
 have HB:=zA (zE W.heap.size W);go_enter Try.func10,Try.ntmps10
 go_upto_region 6 with (first|((with_reducible refine zG (N:=3) rfl ?_);refine goesL_ (some 3) rfl rfl Try.func34 (by kernel_rfl) rfl _ rfl rfl ?_;(try simp only [zS,zT,zU]);refine Calls.mono (blank22 _) ?_;rintro e w3 ⟨gt,capt,rfl,hgt0,ho,hb⟩;have hgt:=zA (Nat.le_trans HB.out.size hgt0);have HT:=zA (Kd.R_lower ho HB.out.size);replace HB:=zA (zJ HB.out HB.out.size hb);clear hb ho hgt0;refine ⟨_,rfl,?_⟩)|((with_reducible refine zH (t:=21) (p:=9) rfl ?_);refine row_r HT.out (i:=2) (by decide) (by decide) rfl rfl rfl rfl rfl one21' ?_;intro w9 hg ho;replace HB:=zA (hb_own HB.out HT.out hg);replace HT:=zA ho;clear hg ho)|((with_reducible refine zG (N:=11) rfl ?_);refine goesL_ (some 11) rfl rfl Try.func13 (by kernel_rfl) rfl _ rfl rfl ?_;(try simp only [zS,zT,zU]);refine Calls.mono (up22 (R_row HT.out rfl)) ?_;rintro e w11 ⟨v,rfl,hv,hb⟩;have HV:=zA hv;clear HT hv;replace HB:=zA (zJ HB.out HB.out.size hb);clear hb;refine ⟨_,rfl,?_⟩))
 obtain ⟨x_,hx_,hn,hlc,hC⟩:=Row.reads HV.out;subst hx_;obtain ⟨ad,e0,hx0,hx1,hx2⟩:=at_T35 hC 0 (by decide) (by decide);obtain ⟨ad',e1,hy0,hy1,hy2⟩:=at_T35 hC 2 (by decide) (by decide);cases e0.symm.trans e1;clear hx1 hx2 hy1 hy2 HV hC e1;simp only [show Int.toNat 0 = 0 from rfl,show Int.toNat 2 = 2 from rfl,Nat.zero_mul,Nat.reduceMul,Go.Addr.add,↓reduceIte,Nat.reduceEqDiff] at hx0 hy0;go_wp2;go_ret;exact ⟨rfl,HB.out⟩
end Go.Proofs.Ytooageeehallbaa.Scr
namespace Go.Proofs.Ytooageeehallbaa.Scr
open Go.RowKit Go.Proofs.YtooageeehallbaaW.PrintWords Go.Proofs.YtooageeehallbaaW.PrintLast Go.Proofs.YtooageeehallbaaW.PrintMore Go.Proofs.Ytooageeehallbaa.QRunsCut
set_option linter.unusedVariables false
set_option linter.unusedSimpArgs false
theorem copied_get {xs : List S35} {d s n : Nat} (hd : d + n ≤ xs.length) (hs : s + n ≤ xs.length) (i : Nat) : (copied xs d s n)[i]? = if d ≤ i∧i < d + n then xs[s + (i - d)]? else xs[i]?:=by
 unfold copied;have hl1 : (xs.take d).length = d:=by rw [List.length_take];omega
 have hl2 : ((xs.drop s).take n).length = n:=by rw [List.length_take,List.length_drop];omega
 rcases Nat.lt_or_ge i d with h|h
 ·rw [if_neg (by omega),List.getElem?_append_left (by rw [zV];omega),List.getElem?_append_left (by omega),List.getElem?_take,if_pos h]
 ·rcases Nat.lt_or_ge i (d + n) with h2|h2
  ·rw [if_pos ⟨h,h2⟩,List.getElem?_append_left (by rw [zV];omega),List.getElem?_append_right (by omega),hl1,List.getElem?_take,if_pos (by omega),List.getElem?_drop]
  ·rw [if_neg (by omega),List.getElem?_append_right (by rw [zV];omega),zV,hl1,hl2,List.getElem?_drop];congr 1
   omega
theorem filled_get {xs : List S35} {lo m : Nat} (h : lo + m ≤ xs.length) (i : Nat) : (filled xs lo m)[i]? = if lo ≤ i∧i < lo + m then some blk else xs[i]?:=by
 unfold filled;have hl1 : (xs.take lo).length = lo:=by rw [List.length_take];omega
 rcases Nat.lt_or_ge i lo with h1|h1
 ·rw [if_neg (by omega),List.getElem?_append_left (by omega),List.getElem?_take,if_pos h1]
 ·rw [List.getElem?_append_right (by omega),hl1];rcases Nat.lt_or_ge i (lo + m) with h2|h2
  ·rw [if_pos ⟨h1,h2⟩,List.getElem?_append_left (by rw [List.length_replicate];omega),List.getElem?_replicate,if_pos (by omega)]
  ·rw [if_neg (by omega),List.getElem?_append_right (by rw [List.length_replicate];omega),List.length_replicate,List.getElem?_drop];congr 1
   omega
theorem copied_len {xs : List S35} {d s n : Nat} (hd : d + n ≤ xs.length) (hs : s + n ≤ xs.length) : (copied xs d s n).length = xs.length:=by
 unfold copied;simp only [zV,List.length_take,List.length_drop];omega
theorem filled_len {xs : List S35} {lo m : Nat} (h : lo + m ≤ xs.length) : (filled xs lo m).length = xs.length:=by
 unfold filled;simp only [zV,List.length_take,List.length_drop,List.length_replicate];omega
theorem upW_len {xs : List S35} {a len k lk : Nat} (h : a + len ≤ xs.length) (hk : k ≤ len) (hl : lk = len - k) : (upW xs a len k lk).length = xs.length:=by
 unfold upW;have h1:=copied_len (xs:=xs) (d:=a) (s:=a + k) (n:=lk) (by omega) (by omega);rw [filled_len (by omega),h1]
theorem down_up {xs : List S35} {a len k lk : Nat} (h : a + len ≤ xs.length) (hk : k ≤ len) (hl : lk = len - k) : downW (upW xs a len k lk) a len k lk = filled xs a k:=by
 have hu:=upW_len h hk hl;have h1:=copied_len (xs:=xs) (d:=a) (s:=a + k) (n:=lk) (by omega) (by omega);have h2:=copied_len (xs:=upW xs a len k lk) (d:=a + k) (s:=a) (n:=lk) (by omega) (by omega);apply List.ext_getElem?;intro i;unfold downW;rw [filled_get (by omega),filled_get (by omega)];split
 ·rfl
 ·rename_i hi
  rw [copied_get (by omega) (by omega)];split
  ·rename_i hi2
   unfold upW;rw [filled_get (by omega),if_neg (by omega),copied_get (by omega) (by omega),if_pos (by omega)];congr 1
   omega
  ·rename_i hi2
   unfold upW;rw [filled_get (by omega),if_neg (by omega),copied_get (by omega) (by omega),if_neg (by omega)]
theorem upL_len {xs : List S35} {R C T B N : Nat} (h : xs.length = R * C) (hT : T ≤ B∧B < R) : (upL xs C T B N).length = R * C:=by
 have h1 : T * C ≤ (B + 1) * C:=Nat.mul_le_mul (by omega) (Nat.le_refl _);have h2 : (B + 1) * C ≤ R * C:=Nat.mul_le_mul (by omega) (Nat.le_refl _);unfold upL;rw [upW_len (by omega) (Nat.min_le_right _ _) rfl,h]
theorem back_ok {xs : List S35} {R C T B N : Nat} (h : xs.length = R * C) (hT : T ≤ B∧B < R) : downL (upL xs C T B N) C T B N = filled xs (T * C) (min (N * C) ((B + 1) * C - T * C)):=by
 have h1 : T * C ≤ (B + 1) * C:=Nat.mul_le_mul (by omega) (Nat.le_refl _);have h2 : (B + 1) * C ≤ R * C:=Nat.mul_le_mul (by omega) (Nat.le_refl _);unfold downL upL;exact down_up (by omega) (Nat.min_le_right _ _) rfl
/-- A place's row,of those that are blank. -/
theorem back_at {R C T B N i : Nat} (hC : 1 ≤ C) (hT : T ≤ B∧B < R) : (T ≤ i / C∧i / C ≤ B∧i / C < T + N) ↔ (T * C ≤ i∧i < T * C + min (N * C) ((B + 1) * C - T * C)):=by
 have e1 : T ≤ i / C ↔ T * C ≤ i:=Nat.le_div_iff_mul_le (by omega);have e2 : i / C < B + 1 ↔ i < (B + 1) * C:=Nat.div_lt_iff_lt_mul (by omega);have e3 : i / C < T + N ↔ i < (T + N) * C:=Nat.div_lt_iff_lt_mul (by omega);have e4 : (T + N) * C = T * C + N * C:=Nat.add_mul _ _ _;have h1 : T * C ≤ (B + 1) * C:=Nat.mul_le_mul (by omega) (Nat.le_refl _);rw [e4] at e3;omega
end Go.Proofs.Ytooageeehallbaa.Scr
namespace Go.Proofs.Ytooageeehallbaa.Scr
open Go.RowKit Go.Proofs.YtooageeehallbaaW.PrintWords Go.Proofs.YtooageeehallbaaW.PrintLast Go.Proofs.YtooageeehallbaaW.PrintMore Go.Proofs.Ytooageeehallbaa.QRunsCut Go.Proofs.Ytooageeehallbaa.Runs
attribute [local go_sem] max2_int min2_int max_two min_two max_three min_three max_four min_four   -- for this text's walks alone
attribute [local go_sem high] eqA35
set_option linter.unusedVariables false
set_option linter.unusedSimpArgs false
theorem rd_filled {xs : List S35} {a k i : Nat} (h : a + k ≤ xs.length) : rd_T35 (filled xs a k) (i : Int) = if a ≤ i∧i < a + k then blk else rd_T35 xs (i : Int):=by
 unfold rd_T35;rw [Int.toNat_natCast,List.getD_eq_getElem?_getD,filled_get h,List.getD_eq_getElem?_getD];split <;> rfl
theorem rem_lt {x : Int} {R : Nat} (h : 0 ≤ x) (hR : 1 ≤ R) : ∃ t : Nat,Int.tmod x (R : Int) = (t : Int)∧t < R:=by
 have h1:=law_mod h (show 0 < R by omega);exact ⟨(Int.tmod x (R : Int)).toNat,by omega,by omega⟩
set_option maxHeartbeats 4000000 in
set_option maxRecDepth 100000 in
theorem gridBack_walk (bl : Sl) (k a b n : Int) (hk : 0 ≤ k∧k ≤ 255) (ha : 0 ≤ a∧a ≤ 255) (hb : 0 ≤ b∧b ≤ 255) (hn : 0 ≤ n∧n ≤ 255) (w : World) (hl : Row (Kd.int .u8) bl Bytes8 w (fun k=>k < w.heap.size)) :
 Calls Try.prog 3 #[.slice bl.A bl.n bl.c,.int .u8 k,.int .u8 a,.int .u8 b,.int .u8 n] w fun e w'=>e = .returned (.bool true)∧Below w.heap.size w w':=by
 have HB:=zA (zE w.heap.size w);have haa:=zA ha;have hbb:=zA hb;have hnn:=zA hn;clear ha hb hn;go_enter Try.func3,Try.ntmps3
 rcases Nat.lt_or_ge 30 bl.n with hbig|hsmall
 ·have e1 : decide (30 < (bl.n : Int)) = true:=zC (by omega);go_wp2_with (first|((with_reducible refine zG (N:=19) rfl ?_);refine goesL_ (some 19) rfl rfl Try.func10 (by kernel_rfl) rfl _ rfl rfl ?_;(try simp only [zS,zT,zU]);refine Calls.mono (known8_call _) ?_;rintro e w19 ⟨rfl,hb⟩;(try replace HL:=zA (mvRow.call HL.out hb));(try replace HI:=zA (mvInv.call HI.out hb));(try replace HC:=zA (mvRow.call HC.out hb));(try replace HV:=zA (mvRow.call HV.out hb));replace HB:=zA (zJ HB.out HB.out.size hb);clear hb;refine ⟨_,rfl,?_⟩)|((with_reducible refine zG (N:=11) rfl ?_);refine bx_alloc (t:=31) (n:=w.heap.size) (cs:=Scr.zero.cs) rfl rfl rfl Scr.infoz HB.out.size ?_;intro g11 w11 hN hg bx;replace HB:=zA (zL HB.out HB.out.size hg);(try replace HL:=zA (mvRow.fresh HL.out hN hg));(try replace HI:=zA (mvInv.fresh HI.out hN hg));(try replace HC:=zA (mvRow.fresh HC.out hN hg));(try replace HV:=zA (mvRow.fresh HV.out hN hg));have BX11:=zA bx;clear hN hg bx)|((with_reducible refine zH (t:=31) (p:=11) rfl ?_);refine bx_store BX11.out rfl rfl rfl rfl (cs':=Scr.cs _) rfl (Scr.sizes _) rfl (Scr.all _) ?_;intro w_28 hg bx;replace HB:=zA (zK HB.out BX11.out hg);(try replace HL:=zA (mvRow.grown HL.out hg (by simp only [zW,true_or,or_true])));(try replace HI:=zA (mvInv.grown HI.out hg (by simp only [zW,true_or,or_true])));(try replace HC:=zA (mvRow.grown HC.out hg (by simp only [zW,true_or,or_true])));(try replace HV:=zA (mvRow.grown HV.out hg (by simp only [zW,true_or,or_true])));clear BX11;have BX11:=zA bx;clear bx hg)|((with_reducible refine zG (N:=34) rfl ?_);refine bx_get BX11.out rfl rfl rfl rfl Try.underlying3 rfl (Scr.get_rows _) ?_)|((with_reducible refine zG (N:=41) rfl ?_);refine bx_get BX11.out rfl rfl rfl rfl Try.underlying3 rfl (Scr.get_rows _) ?_)|((with_reducible refine zG (N:=52) rfl ?_);refine bx_get BX11.out rfl rfl rfl rfl Try.underlying24 rfl (Scr.get_c _) ?_)|((with_reducible refine zG (N:=54) rfl ?_);refine bx_get BX11.out rfl rfl rfl rfl Try.underlying3 rfl (Scr.get_cols _) ?_)|((with_reducible refine zG (N:=60) rfl ?_);refine bx_get BX11.out rfl rfl rfl rfl Try.underlying3 rfl (Scr.get_cols _) ?_)|((with_reducible refine zG (N:=68) rfl ?_);refine bx_get BX11.out rfl rfl rfl rfl Try.underlying24 rfl (Scr.get_c _) ?_)|((with_reducible refine zG (N:=78) rfl ?_);refine bx_get BX11.out rfl rfl rfl rfl Try.underlying24 rfl (Scr.get_c _) ?_)|((with_reducible refine zG (N:=84) rfl ?_);refine bx_get BX11.out rfl rfl rfl rfl Try.underlying3 rfl (Scr.get_cols _) ?_)|((with_reducible refine zG (N:=28) rfl ?_);refine goesL_ (some 28) rfl rfl Try.func11 (by kernel_rfl) rfl _ rfl rfl ?_;(try simp only [zS,zT,zU]);have e_:=seat_inv _ _ hk1.out hk2.out bl _ HL.out;(try dsimp only at e_);refine Calls.mono e_ ?_;clear e_;rintro e w28 ⟨s_,rfl,NI0,hb⟩;have HI:=zA (mvInv.back (ok:=fun k=>k < w.heap.size) (n:=w.heap.size) (gs:=[]) NI0 HB.out.size (by simp));clear NI0;clear HL;obtain ⟨lc,hG,hcn,hcc,HC0⟩:=Row.pin (show Row k35 s_.c (Grid _ _) _ _ from HI.out.c);have HC:=zA HC0;clear HC0;have hgc:=zA (grid_cells HI.out.small hG);have hGr:=zA hG;clear hG;have hrw:=HI.out.hrows;have hcl:=HI.out.hcols;replace hcn:=zA hcn;replace hcc:=zA hcc;(try replace HL:=zA (mvRow.call HL.out hb));(try replace HI:=zA (mvInv.call HI.out hb));(try replace HC:=zA (mvRow.call HC.out hb));(try replace HV:=zA (mvRow.call HV.out hb));replace HB:=zA (zJ HB.out HB.out.size hb);clear hb;refine ⟨_,rfl,?_⟩));go_ret;exact ⟨rfl,HB.out⟩
 ·have e1 : decide (30 < (bl.n : Int)) = false:=zD (by omega);have HL:=zA (mvRow.enter (law_row hl hsmall) (n:=w.heap.size) rfl);have hk1:=zA hk;have hk2:=zA (show 0 ≤ k.tdiv 6 % 256∧k.tdiv 6 % 256 ≤ 255 by omega);clear hl hk;go_upto_region 6 with (first|((with_reducible refine zG (N:=19) rfl ?_);refine goesL_ (some 19) rfl rfl Try.func10 (by kernel_rfl) rfl _ rfl rfl ?_;(try simp only [zS,zT,zU]);refine Calls.mono (known8_call _) ?_;rintro e w19 ⟨rfl,hb⟩;(try replace HL:=zA (mvRow.call HL.out hb));(try replace HI:=zA (mvInv.call HI.out hb));(try replace HC:=zA (mvRow.call HC.out hb));(try replace HV:=zA (mvRow.call HV.out hb));replace HB:=zA (zJ HB.out HB.out.size hb);clear hb;refine ⟨_,rfl,?_⟩)|((with_reducible refine zG (N:=11) rfl ?_);refine bx_alloc (t:=31) (n:=w.heap.size) (cs:=Scr.zero.cs) rfl rfl rfl Scr.infoz HB.out.size ?_;intro g11 w11 hN hg bx;replace HB:=zA (zL HB.out HB.out.size hg);(try replace HL:=zA (mvRow.fresh HL.out hN hg));(try replace HI:=zA (mvInv.fresh HI.out hN hg));(try replace HC:=zA (mvRow.fresh HC.out hN hg));(try replace HV:=zA (mvRow.fresh HV.out hN hg));have BX11:=zA bx;clear hN hg bx)|((with_reducible refine zH (t:=31) (p:=11) rfl ?_);refine bx_store BX11.out rfl rfl rfl rfl (cs':=Scr.cs _) rfl (Scr.sizes _) rfl (Scr.all _) ?_;intro w_28 hg bx;replace HB:=zA (zK HB.out BX11.out hg);(try replace HL:=zA (mvRow.grown HL.out hg (by simp only [zW,true_or,or_true])));(try replace HI:=zA (mvInv.grown HI.out hg (by simp only [zW,true_or,or_true])));(try replace HC:=zA (mvRow.grown HC.out hg (by simp only [zW,true_or,or_true])));(try replace HV:=zA (mvRow.grown HV.out hg (by simp only [zW,true_or,or_true])));clear BX11;have BX11:=zA bx;clear bx hg)|((with_reducible refine zG (N:=34) rfl ?_);refine bx_get BX11.out rfl rfl rfl rfl Try.underlying3 rfl (Scr.get_rows _) ?_)|((with_reducible refine zG (N:=41) rfl ?_);refine bx_get BX11.out rfl rfl rfl rfl Try.underlying3 rfl (Scr.get_rows _) ?_)|((with_reducible refine zG (N:=52) rfl ?_);refine bx_get BX11.out rfl rfl rfl rfl Try.underlying24 rfl (Scr.get_c _) ?_)|((with_reducible refine zG (N:=54) rfl ?_);refine bx_get BX11.out rfl rfl rfl rfl Try.underlying3 rfl (Scr.get_cols _) ?_)|((with_reducible refine zG (N:=60) rfl ?_);refine bx_get BX11.out rfl rfl rfl rfl Try.underlying3 rfl (Scr.get_cols _) ?_)|((with_reducible refine zG (N:=68) rfl ?_);refine bx_get BX11.out rfl rfl rfl rfl Try.underlying24 rfl (Scr.get_c _) ?_)|((with_reducible refine zG (N:=78) rfl ?_);refine bx_get BX11.out rfl rfl rfl rfl Try.underlying24 rfl (Scr.get_c _) ?_)|((with_reducible refine zG (N:=84) rfl ?_);refine bx_get BX11.out rfl rfl rfl rfl Try.underlying3 rfl (Scr.get_cols _) ?_)|((with_reducible refine zG (N:=28) rfl ?_);refine goesL_ (some 28) rfl rfl Try.func11 (by kernel_rfl) rfl _ rfl rfl ?_;(try simp only [zS,zT,zU]);have e_:=seat_inv _ _ hk1.out hk2.out bl _ HL.out;(try dsimp only at e_);refine Calls.mono e_ ?_;clear e_;rintro e w28 ⟨s_,rfl,NI0,hb⟩;have HI:=zA (mvInv.back (ok:=fun k=>k < w.heap.size) (n:=w.heap.size) (gs:=[]) NI0 HB.out.size (by simp));clear NI0;clear HL;obtain ⟨lc,hG,hcn,hcc,HC0⟩:=Row.pin (show Row k35 s_.c (Grid _ _) _ _ from HI.out.c);have HC:=zA HC0;clear HC0;have hgc:=zA (grid_cells HI.out.small hG);have hGr:=zA hG;clear hG;have hrw:=HI.out.hrows;have hcl:=HI.out.hcols;replace hcn:=zA hcn;replace hcc:=zA hcc;(try replace HL:=zA (mvRow.call HL.out hb));(try replace HI:=zA (mvInv.call HI.out hb));(try replace HC:=zA (mvRow.call HC.out hb));(try replace HV:=zA (mvRow.call HV.out hb));replace HB:=zA (zJ HB.out HB.out.size hb);clear hb;refine ⟨_,rfl,?_⟩))
  clear e1;obtain ⟨R,hRe,hR1⟩ : ∃ R : Nat,k % 6 + 1 = (R : Int)∧1 ≤ R∧R ≤ 6:=⟨(k % 6 + 1).toNat,by have:=hk1.out;omega,by have:=hk1.out;omega,by have:=hk1.out;omega⟩;obtain ⟨C,hCe,hC1⟩ : ∃ C : Nat,k.tdiv 6 % 256 % 9 + 1 = (C : Int)∧1 ≤ C∧C ≤ 9:=⟨(k.tdiv 6 % 256 % 9 + 1).toNat,by have:=hk2.out;omega,by have:=hk2.out;omega,by have:=hk2.out;omega⟩;rw [hRe] at hrw;rw [hCe] at hcl;rw [hRe,hCe] at hGr HI;have hlen : lc.length = R * C:=by have h1:=hGr.out.len;rw [← Int.natCast_mul] at h1;omega
  clear hRe hCe hk1 hk2 hgc;obtain ⟨mn_,hmn,hmn1⟩ : ∃ m : Int,(if b < a then b else a) = m∧0 ≤ m∧m ≤ 255:=⟨_,rfl,by have h1:=haa.out;have h2:=hbb.out;split <;> omega⟩;obtain ⟨mx_,hmx,hmx1⟩ : ∃ m : Int,(if a < b then b else a) = m∧0 ≤ m∧m ≤ 255:=⟨_,rfl,by have h1:=haa.out;have h2:=hbb.out;split <;> omega⟩;have w1 : wrap64 mn_ = mn_:=wrap64_nat (by omega);have w2 : wrap64 mx_ = mx_:=wrap64_nat (by omega);obtain ⟨t0,ht0,ht1⟩:=rem_lt hmn1.1 hR1.1;obtain ⟨b0,hb0,hb1⟩:=rem_lt hmx1.1 hR1.1;have hRz : ((R : Int) = 0) = False:=eq_false (by omega);have hRz' : (R = 0) = False:=eq_false (by omega);have hb : Below w_28.heap.size w_28 w_28.drew:=(zE _ _).drew;replace BX11:=zA (zM BX11.out hb);(try replace HL:=zA (mvRow.call HL.out hb));(try replace HI:=zA (mvInv.call HI.out hb));(try replace HC:=zA (mvRow.call HC.out hb));(try replace HV:=zA (mvRow.call HV.out hb));replace HB:=zA (zJ HB.out HB.out.size hb);clear hb;refine start_ (n:=16) (S:=fun w'=>w'.heap[g11]? = some (.cells s_.cs 31 (0,0))) (ds:=[]) #[false,false,false,false,false,false,false,false,false,false,false,false,false,false,false,false] (by kernel_rfl) rfl rfl BX11.out.bx (fun hHeld=>?_);generalize World.drew w_28 = wD at HB BX11 HI HC hHeld ⊢;refine pure_ (i:=0) (N:=(some 29)) (v:=?_) (a':=?_) #[true,false,false,false,false,false,false,false,false,false,false,false,false,false,false,false] rfl rfl (by kernel_rfl) (fun _ _ _ h=>h) (Or.inl ⟨by rfl,?_⟩) ?_ ?_;rotate_left
  ·intro w';go_simp;(with_reducible rfl)
  rotate_left
  ·simp only [Act.put,zP,zQ,zR,i64_w,i32_w];rfl
  refine pure_ (i:=1) (N:=(some 30)) (v:=?_) (a':=?_) #[true,true,false,false,false,false,false,false,false,false,false,false,false,false,false,false] rfl rfl (by kernel_rfl) (fun _ _ _ h=>h) (Or.inl ⟨by rfl,?_⟩) ?_ ?_;rotate_left
  ·intro w';go_simp;(with_reducible rfl)
  rotate_left
  ·simp only [Act.put,zP,zQ,zR,i64_w,i32_w];rfl
  refine pure_ (i:=2) (N:=(some 31)) (v:=?_) (a':=?_) #[true,true,true,false,false,false,false,false,false,false,false,false,false,false,false,false] rfl rfl (by kernel_rfl) (fun _ _ _ h=>h) (Or.inl ⟨by rfl,?_⟩) ?_ ?_;rotate_left
  ·intro w';go_simp;(with_reducible rfl)
  rotate_left
  ·simp only [Act.put,zP,zQ,zR,i64_w,i32_w];rfl
  refine pure_ (i:=3) (N:=(some 32)) (v:=?_) (a':=?_) #[true,true,true,true,false,false,false,false,false,false,false,false,false,false,false,false] rfl rfl (by kernel_rfl) (fun _ _ _ h=>h) (Or.inl ⟨by rfl,?_⟩) ?_ ?_;rotate_left
  ·intro w';go_simp;(with_reducible rfl)
  rotate_left
  ·simp only [Act.put,zP,zQ,zR,i64_w,i32_w];rfl
  refine pure_ (i:=4) (N:=(some 33)) (v:=?_) (a':=?_) #[true,true,true,true,true,false,false,false,false,false,false,false,false,false,false,false] rfl rfl (by kernel_rfl) (fun _ _ _ h=>h) (Or.inl ⟨by rfl,?_⟩) ?_ ?_;rotate_left
  ·intro w';go_simp;(with_reducible rfl)
  rotate_left
  ·simp only [Act.put,zP,zQ,zR,i64_w,i32_w];rfl
  refine take_ (i:=5) (N:=(some 34)) (v:=(.int .i64 s_.rows)) (a':=?_) #[true,true,true,true,true,true,false,false,false,false,false,false,false,false,false,false] rfl rfl (by kernel_rfl) (fun _ _ _ h=>h) (Or.inl ⟨by rfl,?_⟩) hHeld ?_ ?_
  ·rintro w' hs0_
   exact bx_yields hs0_ rfl rfl Try.underlying3 rfl (Scr.get_rows s_)
  rotate_left
  ·simp only [Act.put,zP,zQ,zR,i64_w,i32_w];rfl
  refine pure_ (i:=6) (N:=(some 35)) (v:=?_) (a':=?_) #[true,true,true,true,true,true,true,false,false,false,false,false,false,false,false,false] rfl rfl (by kernel_rfl) (fun _ _ _ h=>h) (Or.inl ⟨by rfl,?_⟩) ?_ ?_;rotate_left
  ·intro w';go_simp;(with_reducible rfl)
  rotate_left
  ·simp only [Act.put,zP,zQ,zR,i64_w,i32_w];rfl
  refine pure_ (i:=7) (N:=(some 36)) (v:=?_) (a':=?_) #[true,true,true,true,true,true,true,true,false,false,false,false,false,false,false,false] rfl rfl (by kernel_rfl) (fun _ _ _ h=>h) (Or.inl ⟨by rfl,?_⟩) ?_ ?_;rotate_left
  ·intro w';go_simp;(with_reducible rfl)
  rotate_left
  ·simp only [Act.put,zP,zQ,zR,i64_w,i32_w];rfl
  refine pure_ (i:=8) (N:=(some 37)) (v:=?_) (a':=?_) #[true,true,true,true,true,true,true,true,true,false,false,false,false,false,false,false] rfl rfl (by kernel_rfl) (fun _ _ _ h=>h) (Or.inl ⟨by rfl,?_⟩) ?_ ?_;rotate_left
  ·intro w';go_simp;(with_reducible rfl)
  rotate_left
  ·simp only [Act.put,zP,zQ,zR,i64_w,i32_w];rfl
  refine pure_ (i:=9) (N:=(some 38)) (v:=?_) (a':=?_) #[true,true,true,true,true,true,true,true,true,true,false,false,false,false,false,false] rfl rfl (by kernel_rfl) (fun _ _ _ h=>h) (Or.inl ⟨by rfl,?_⟩) ?_ ?_;rotate_left
  ·intro w';go_simp;(with_reducible rfl)
  rotate_left
  ·simp only [Act.put,zP,zQ,zR,i64_w,i32_w];rfl
  refine pure_ (i:=10) (N:=(some 39)) (v:=?_) (a':=?_) #[true,true,true,true,true,true,true,true,true,true,true,false,false,false,false,false] rfl rfl (by kernel_rfl) (fun _ _ _ h=>h) (Or.inl ⟨by rfl,?_⟩) ?_ ?_;rotate_left
  ·intro w';go_simp;(with_reducible rfl)
  rotate_left
  ·simp only [Act.put,zP,zQ,zR,i64_w,i32_w];rfl
  refine pure_ (i:=11) (N:=(some 40)) (v:=?_) (a':=?_) #[true,true,true,true,true,true,true,true,true,true,true,true,false,false,false,false] rfl rfl (by kernel_rfl) (fun _ _ _ h=>h) (Or.inl ⟨by rfl,?_⟩) ?_ ?_;rotate_left
  ·intro w';go_simp;(with_reducible rfl)
  rotate_left
  ·simp only [Act.put,zP,zQ,zR,i64_w,i32_w];rfl
  refine take_ (i:=12) (N:=(some 41)) (v:=(.int .i64 s_.rows)) (a':=?_) #[true,true,true,true,true,true,true,true,true,true,true,true,true,false,false,false] rfl rfl (by kernel_rfl) (fun _ _ _ h=>h) (Or.inl ⟨by rfl,?_⟩) hHeld ?_ ?_
  ·rintro w' hs0_
   exact bx_yields hs0_ rfl rfl Try.underlying3 rfl (Scr.get_rows s_)
  rotate_left
  ·simp only [Act.put,zP,zQ,zR,i64_w,i32_w];rfl
  refine pure_ (i:=13) (N:=(some 42)) (v:=?_) (a':=?_) #[true,true,true,true,true,true,true,true,true,true,true,true,true,true,false,false] rfl rfl (by kernel_rfl) (fun _ _ _ h=>h) (Or.inl ⟨by rfl,?_⟩) ?_ ?_;rotate_left
  ·intro w';go_simp;(with_reducible rfl)
  rotate_left
  ·simp only [Act.put,zP,zQ,zR,i64_w,i32_w];rfl
  refine pure_ (i:=14) (N:=(some 12)) (v:=?_) (a':=?_) #[true,true,true,true,true,true,true,true,true,true,true,true,true,true,true,false] rfl rfl (by kernel_rfl) (fun _ _ _ h=>h) (Or.inl ⟨by rfl,?_⟩) ?_ ?_;rotate_left
  ·intro w';go_simp;(with_reducible rfl)
  rotate_left
  ·simp only [Act.put,zP,zQ,zR,i64_w,i32_w];rfl
  refine pure_ (i:=15) (N:=(some 13)) (v:=?_) (a':=?_) #[true,true,true,true,true,true,true,true,true,true,true,true,true,true,true,true] rfl rfl (by kernel_rfl) (fun _ _ _ h=>h) (Or.inl ⟨by rfl,?_⟩) ?_ ?_;rotate_left
  ·intro w';go_simp;(with_reducible rfl)
  rotate_left
  ·simp only [Act.put,zP,zQ,zR,i64_w,i32_w];rfl
  refine done_ (by kernel_rfl) ?_;clear hmn hmx hmn1 hmx1 w1 w2 ht0 hb0 hHeld;have hs11:=BX11.out.bx;clear hs11 HI;go_upto_if 45 with (fail)
  go_cut [12,13] (fun v12 v13 wc=>∃ T B : Nat,v12 = .int .i64 (T : Int)∧v13 = .int .i64 (B : Int)∧Aside0 (T ≤ B∧B < R)∧Aside0 (Below w.heap.size w wc)∧Aside0 (Bx w.heap.size 31 g11 wc s_.cs)∧Aside0 (Row k35 s_.c (fun x=>x = lc) wc (Nb (fun k=>k < w.heap.size) w.heap.size [g11])))
  case first =>
   rcases Nat.lt_or_ge b0 t0 with hlt|hge
   ·have p1:=eq_true hlt;go_wp2;go_meet
    case rel=>exact ⟨b0,t0,rfl,rfl,⟨Nat.le_of_lt hlt,ht1⟩,HB,BX11,HC⟩
   ·have p1:=eq_false (Nat.not_lt.2 hge);go_wp2;go_meet
    case rel=>exact ⟨t0,b0,rfl,rfl,⟨hge,hb1⟩,HB,BX11,HC⟩
  case rest =>
   clear HB BX11 HC ht1 hb1;obtain ⟨T,B,rfl,rfl,hTB,HB,BX11,HC⟩:=hcut;obtain ⟨N,hNe,hN7⟩ : ∃ N : Nat,n.tmod 8 = (N : Int)∧N ≤ 7:=by
    have h1:=law_mod (b:=8) hnn.out.1 (by decide);exact ⟨(n.tmod 8).toNat,by have:=h1.1;have e8 : ((8 : Nat) : Int) = 8:=rfl;rw [e8] at this;omega,by have:=h1.2;have e8 : ((8 : Nat) : Int) = 8:=rfl;rw [e8] at this;omega⟩
   have eN : wrap64 (N : Int) = (N : Int):=wrap64_nat (by omega);go_upto_region 10 with (fail)
   clear hNe eN hnn;have hb : Below wc.heap.size wc wc.drew:=(zE _ _).drew;replace BX11:=zA (zM BX11.out hb);(try replace HL:=zA (mvRow.call HL.out hb));(try replace HI:=zA (mvInv.call HI.out hb));(try replace HC:=zA (mvRow.call HC.out hb));(try replace HV:=zA (mvRow.call HV.out hb));replace HB:=zA (zJ HB.out HB.out.size hb);clear hb;refine start_ (n:=15) (S:=fun w'=>w'.heap[g11]? = some (.cells s_.cs 31 (0,0))) (ds:=[]) #[false,false,false,false,false,false,false,false,false,false,false,false,false,false,false] (by kernel_rfl) rfl rfl BX11.out.bx (fun hHeld=>?_);generalize World.drew wc = wD at HB BX11 HC hHeld ⊢;refine pure_ (i:=0) (N:=(some 51)) (v:=?_) (a':=?_) #[true,false,false,false,false,false,false,false,false,false,false,false,false,false,false] rfl rfl (by kernel_rfl) (fun _ _ _ h=>h) (Or.inl ⟨by rfl,?_⟩) ?_ ?_;rotate_left
   ·intro w';go_simp;(with_reducible rfl)
   rotate_left
   ·simp only [Act.put,zP,zQ,zR,i64_w,i32_w];rfl
   refine take_ (i:=1) (N:=(some 52)) (v:=(.slice s_.c.A s_.c.n s_.c.c)) (a':=?_) #[true,true,false,false,false,false,false,false,false,false,false,false,false,false,false] rfl rfl (by kernel_rfl) (fun _ _ _ h=>h) (Or.inl ⟨by rfl,?_⟩) hHeld ?_ ?_
   ·rintro w' hs0_
    exact bx_yields hs0_ rfl rfl Try.underlying24 rfl (Scr.get_c s_)
   rotate_left
   ·simp only [Act.put,zP,zQ,zR,i64_w,i32_w];rfl
   refine pure_ (i:=2) (N:=(some 53)) (v:=?_) (a':=?_) #[true,true,true,false,false,false,false,false,false,false,false,false,false,false,false] rfl rfl (by kernel_rfl) (fun _ _ _ h=>h) (Or.inl ⟨by rfl,?_⟩) ?_ ?_;rotate_left
   ·intro w';go_simp;(with_reducible rfl)
   rotate_left
   ·simp only [Act.put,zP,zQ,zR,i64_w,i32_w];rfl
   refine take_ (i:=3) (N:=(some 54)) (v:=(.int .i64 s_.cols)) (a':=?_) #[true,true,true,true,false,false,false,false,false,false,false,false,false,false,false] rfl rfl (by kernel_rfl) (fun _ _ _ h=>h) (Or.inl ⟨by rfl,?_⟩) hHeld ?_ ?_
   ·rintro w' hs0_
    exact bx_yields hs0_ rfl rfl Try.underlying3 rfl (Scr.get_cols s_)
   rotate_left
   ·simp only [Act.put,zP,zQ,zR,i64_w,i32_w];rfl
   refine pure_ (i:=4) (N:=(some 55)) (v:=?_) (a':=?_) #[true,true,true,true,true,false,false,false,false,false,false,false,false,false,false] rfl rfl (by kernel_rfl) (fun _ _ _ h=>h) (Or.inl ⟨by rfl,?_⟩) ?_ ?_;rotate_left
   ·intro w';go_simp;(with_reducible rfl)
   rotate_left
   ·simp only [Act.put,zP,zQ,zR,i64_w,i32_w];rfl
   refine pure_ (i:=5) (N:=(some 56)) (v:=?_) (a':=?_) #[true,true,true,true,true,true,false,false,false,false,false,false,false,false,false] rfl rfl (by kernel_rfl) (fun _ _ _ h=>h) (Or.inl ⟨by rfl,?_⟩) ?_ ?_;rotate_left
   ·intro w';go_simp;(with_reducible rfl)
   rotate_left
   ·simp only [Act.put,zP,zQ,zR,i64_w,i32_w];rfl
   refine pure_ (i:=6) (N:=(some 57)) (v:=?_) (a':=?_) #[true,true,true,true,true,true,true,false,false,false,false,false,false,false,false] rfl rfl (by kernel_rfl) (fun _ _ _ h=>h) (Or.inl ⟨by rfl,?_⟩) ?_ ?_;rotate_left
   ·intro w';go_simp;(with_reducible rfl)
   rotate_left
   ·simp only [Act.put,zP,zQ,zR,i64_w,i32_w];rfl
   refine pure_ (i:=8) (N:=(some 59)) (v:=?_) (a':=?_) #[true,true,true,true,true,true,true,false,true,false,false,false,false,false,false] rfl rfl (by kernel_rfl) (fun _ _ _ h=>h) (Or.inl ⟨by rfl,?_⟩) ?_ ?_;rotate_left
   ·intro w';go_simp;(with_reducible rfl)
   rotate_left
   ·simp only [Act.put,zP,zQ,zR,i64_w,i32_w];rfl
   refine take_ (i:=9) (N:=(some 60)) (v:=(.int .i64 s_.cols)) (a':=?_) #[true,true,true,true,true,true,true,false,true,true,false,false,false,false,false] rfl rfl (by kernel_rfl) (fun _ _ _ h=>h) (Or.inl ⟨by rfl,?_⟩) hHeld ?_ ?_
   ·rintro w' hs0_
    exact bx_yields hs0_ rfl rfl Try.underlying3 rfl (Scr.get_cols s_)
   rotate_left
   ·simp only [Act.put,zP,zQ,zR,i64_w,i32_w];rfl
   refine pure_ (i:=10) (N:=(some 61)) (v:=?_) (a':=?_) #[true,true,true,true,true,true,true,false,true,true,true,false,false,false,false] rfl rfl (by kernel_rfl) (fun _ _ _ h=>h) (Or.inl ⟨by rfl,?_⟩) ?_ ?_;rotate_left
   ·intro w';go_simp;(with_reducible rfl)
   rotate_left
   ·simp only [Act.put,zP,zQ,zR,i64_w,i32_w];rfl
   refine pure_ (i:=11) (N:=(some 62)) (v:=?_) (a':=?_) #[true,true,true,true,true,true,true,false,true,true,true,true,false,false,false] rfl rfl (by kernel_rfl) (fun _ _ _ h=>h) (Or.inl ⟨by rfl,?_⟩) ?_ ?_;rotate_left
   ·intro w';go_simp;(with_reducible rfl)
   rotate_left
   ·simp only [Act.put,zP,zQ,zR,i64_w,i32_w];rfl
   refine pure_ (i:=12) (N:=(some 63)) (v:=?_) (a':=?_) #[true,true,true,true,true,true,true,false,true,true,true,true,true,false,false] rfl rfl (by kernel_rfl) (fun _ _ _ h=>h) (Or.inl ⟨by rfl,?_⟩) ?_ ?_;rotate_left
   ·intro w';go_simp;(with_reducible rfl)
   rotate_left
   ·simp only [Act.put,zP,zQ,zR,i64_w,i32_w];rfl
   refine one_ (i:=7) (N:=(some 58)) #[true,true,true,true,true,true,true,true,true,true,true,true,true,false,false] rfl rfl (by kernel_rfl) (by decide) (fun K hK=>?_);refine goes_ Try.func13 (by kernel_rfl) rfl _ (by rfl) rfl rfl rfl ?_;(try simp only [zS,zT,zU]);(try rw [hcl]);have e_:=gup_call (c:=s_.c) HC.out hlen (by omega) (by omega) hTB.out (show N ≤ 1000 by omega);refine Calls.mono e_ ?_;clear e_;rintro e w113 ⟨u_,rfl,NU0,hb⟩
   refine ⟨_,rfl,?_⟩;have HU:=zA (mvRow.new (ok:=fun k=>k < w.heap.size) (n:=w.heap.size) (gs:=[g11]) NU0 HB.out.size (by simp only [zW,List.not_mem_nil,or_false];rintro g_ hg_;rcases hg_ with rfl <;> first|exact BX11.out.lt));clear NU0;replace BX11:=zA (zM BX11.out hb);replace HC:=zA (mvRow.call HC.out hb);(try replace HU:=zA (mvRow.call HU.out hb));replace HB:=zA (zJ HB.out HB.out.size hb);clear hb;refine hK.out _ _ BX11.out.bx (fun hHeld=>?_);clear hK K;refine norm_ (a':=?_) ?_ ?_;rotate_left
   ·show Act.put _ (some 58) _ = _
    simp only [Act.put,zP,zQ,zR,i64_w,i32_w];rfl
   refine one_ (i:=13) (N:=(some 64)) #[true,true,true,true,true,true,true,true,true,true,true,true,true,true,false] rfl rfl (by kernel_rfl) (by decide) (fun K hK=>?_);refine goes_ Try.func12 (by kernel_rfl) rfl _ (by rfl) rfl rfl rfl ?_;(try simp only [zS,zT,zU]);(try rw [hcl]);have e_:=gdown_call (c:=u_) HU.out (upL_len hlen hTB.out) (by omega) (by omega) hTB.out (show N ≤ 1000 by omega);refine Calls.mono e_ ?_;clear e_;rintro e w112 ⟨d_,rfl,ND0,hb⟩
   refine ⟨_,rfl,?_⟩;rw [back_ok hlen hTB.out] at ND0;have HD:=zA (mvRow.new (ok:=fun k=>k < w.heap.size) (n:=w.heap.size) (gs:=[g11]) ND0 HB.out.size (by simp only [zW,List.not_mem_nil,or_false];rintro g_ hg_;rcases hg_ with rfl <;> first|exact BX11.out.lt));clear ND0;replace BX11:=zA (zM BX11.out hb);replace HC:=zA (mvRow.call HC.out hb);(try replace HU:=zA (mvRow.call HU.out hb));replace HB:=zA (zJ HB.out HB.out.size hb);clear hb;refine hK.out _ _ BX11.out.bx (fun hHeld=>?_);clear hK K;refine norm_ (a':=?_) ?_ ?_;rotate_left
   ·show Act.put _ (some 64) _ = _
    simp only [Act.put,zP,zQ,zR,i64_w,i32_w];rfl
   refine pure_ (i:=14) (N:=(some 15)) (v:=?_) (a':=?_) #[true,true,true,true,true,true,true,true,true,true,true,true,true,true,true] rfl rfl (by kernel_rfl) (fun _ _ _ h=>h) (Or.inl ⟨by rfl,?_⟩) ?_ ?_;rotate_left
   ·intro w';go_simp;(with_reducible rfl)
   rotate_left
   ·simp only [Act.put,zP,zQ,zR,i64_w,i32_w];rfl
   refine done_ (by kernel_rfl) ?_;clear HU;obtain ⟨x_,hx_,hdn,hdc,hDC⟩:=Row.reads HD.out;clear hDC;cases hx_;obtain ⟨a1,ha1⟩ : ∃ a1,a1 = T * C:=⟨_,rfl⟩;obtain ⟨kk,hkk⟩ : ∃ kk,kk = min (N * C) ((B + 1) * C - T * C):=⟨_,rfl⟩;have hak : a1 + kk ≤ lc.length:=by
    have h1 : T * C ≤ (B + 1) * C:=Nat.mul_le_mul (by have:=hTB.out;omega) (Nat.le_refl _);have h2 : (B + 1) * C ≤ R * C:=Nat.mul_le_mul (by have:=hTB.out;omega) (Nat.le_refl _);omega
   rw [← hkk,← ha1] at HD hdn hdc;rw [filled_len hak] at hdn hdc;have hbk:=fun i=>back_at (R:=R) (C:=C) (T:=T) (B:=B) (N:=N) (i:=i) hC1.1 hTB.out
   have hbk2 : ∀ i,(T ≤ i / C∧i / C ≤ B∧i / C < T + N) ↔ (a1 ≤ i∧i < a1 + kk):=fun i=>by rw [ha1,hkk];exact hbk i
   clear hbk;have hbk:=zA hbk2;clear hbk2 ha1 hkk;replace hcn:=hcn.out;have hcp : (0 < lc.length):=by have:=Nat.mul_le_mul hR1.1 hC1.1;omega
   have hl54 : lc.length ≤ 6 * 9:=by rw [hlen];exact Nat.mul_le_mul hR1.2 hC1.2
   replace hlen:=zA hlen;obtain ⟨x_,hx_,_,_,hCC⟩:=Row.reads HC.out;cases hx_;obtain ⟨ac,hac,hz0,hz1,hz2⟩:=at_T35 hCC 0 (by decide) (by omega);obtain ⟨x_,hx_,_,_,hDD⟩:=Row.reads HD.out;cases hx_;obtain ⟨adD,had,hy0,hy1,hy2⟩:=at_T35 hDD 0 (by decide) (by omega);clear hCC hDD hz0 hz1 hz2 hy0 hy1 hy2;go_wp2_with (first|((with_reducible refine zG (N:=68) rfl ?_);refine bx_get BX11.out rfl rfl rfl rfl Try.underlying24 rfl (Scr.get_c _) ?_));go_loopg [16] lc.length (fun kq v16 wr=>∃ (i : Nat),v16 = .int .i64 (i : Int)∧Aside0 (kq = lc.length - i∧i ≤ lc.length)∧Aside0 (Below w.heap.size w wr)∧Aside0 (Bx w.heap.size 31 g11 wr s_.cs)∧Aside0 (Row k35 s_.c (fun x=>x = lc) wr (Nb (fun k=>k < w.heap.size) w.heap.size [g11]))∧Aside0 (Row k35 d_ (fun x=>x = filled lc a1 kk) wr (Nb (fun k=>k < w.heap.size) w.heap.size [g11])))
   case atStart=>exact ⟨0,rfl,⟨by omega,by omega⟩,HB,BX11,HC,HD⟩
   case round =>
    clear HB BX11 HC HD;obtain ⟨i,rfl,HK,HB,BX11,HC,HD⟩:=hrel;by_cases hlt : i < lc.length
    ·have p1:=eq_true (show (0 : Int) ≤ (i : Int) by omega);have p2:=eq_true (show (i : Int) < (lc.length : Int) by omega);have p2':=eq_true hlt;obtain ⟨x_,hx_,_,_,hCC⟩:=Row.reads HC.out;cases hx_;obtain ⟨ac',e',hz0,hz1,hz2⟩:=at_T35 hCC (i : Int) (by omega) (by omega);cases hac.symm.trans e';clear hCC e';simp only [Int.toNat_natCast] at hz0 hz1 hz2;have hCz : ((C : Int) = 0) = False:=eq_false (by omega);have hCz' : (C = 0) = False:=eq_false (by omega);obtain ⟨y,hy_⟩ : ∃ y,y = i / C:=⟨_,rfl⟩;have hy:=zA hy_;clear hy_;have eq1 : (i : Int) / (C : Int) = (y : Int):=by rw [hy.out];exact (Int.natCast_ediv _ _).symm
     have eq2 : wrap64 (y : Int) = (y : Int):=wrap64_nat (by have:=Nat.div_le_self i C;have:=hy.out;omega);go_upto_region 18 with (first|((with_reducible refine zG (N:=78) rfl ?_);refine bx_get BX11.out rfl rfl rfl rfl Try.underlying24 rfl (Scr.get_c _) ?_)|((with_reducible refine zG (N:=84) rfl ?_);refine bx_get BX11.out rfl rfl rfl rfl Try.underlying3 rfl (Scr.get_cols _) ?_)|((with_reducible refine zG (N:=17) rfl ?_);refine bx_alloc (t:=35) (n:=w.heap.size) (cs:=#[.int .i32 0,.int .u16 0,.int .u8 0]) rfl rfl rfl (by kernel_rfl) HB.out.size ?_;intro g17 w17 hN hg bx;replace HB:=zA (zL HB.out HB.out.size hg);have NE11_17:=zA (show g11 ≠ g17 from by have:=BX11.out.lt;omega);have NE17_11:=zA (Ne.symm NE11_17.out);replace BX11:=zA (zO BX11.out hg);(try replace HC:=zA (mvRow.fresh HC.out hN hg));(try replace HD:=zA (mvRow.fresh HD.out hN hg));have BX17:=zA bx;clear hN hg bx)|((with_reducible refine zH (t:=35) (p:=17) rfl ?_);refine bx_store BX17.out rfl rfl rfl rfl (cs':=#[.int .i32 _,.int .u16 _,.int .u8 _]) rfl (by kernel_rfl) rfl (by simp [Value.oneCell']) ?_;intro w_17 hg bx;replace HB:=zA (zK HB.out BX17.out hg);replace BX11:=zA (zN BX11.out hg NE11_17.out);(try replace HC:=zA (mvRow.grown HC.out hg (by simp only [zW,true_or,or_true])));(try replace HD:=zA (mvRow.grown HD.out hg (by simp only [zW,true_or,or_true])));clear BX17;have BX17:=zA bx;clear bx hg))
     obtain ⟨tn,htn⟩ : ∃ tn,tn = T + N:=⟨_,rfl⟩;have etn : wrap64 ((T : Int) + (N : Int)) = (tn : Int):=by rw [htn,Int.natCast_add,wrap64_nat (by have:=hTB.out;omega)]
     have hiff:=hbk.out i;rw [← hy.out,← htn] at hiff;clear htn hz0 hz1 hz2;go_cut [100] (fun v100 wc=>v100 = .bool (decide (a1 ≤ i∧i < a1 + kk))∧Aside0 (Below w.heap.size w wc)∧Aside0 (Bx w.heap.size 31 g11 wc s_.cs)∧Aside0 (Bx w.heap.size 35 g17 wc #[.int .i32 (rd_T35 lc (i : Int)).f0,.int .u16 (rd_T35 lc (i : Int)).f1,.int .u8 (rd_T35 lc (i : Int)).f2])∧Aside0 (Row k35 s_.c (fun x=>x = lc) wc (Nb (fun k=>k < w.heap.size) w.heap.size [g17,g11]))∧Aside0 (Row k35 d_ (fun x=>x = filled lc a1 kk) wc (Nb (fun k=>k < w.heap.size) w.heap.size [g17,g11])))
     case first =>
      by_cases c1 : T ≤ y
      ·have d1:=eq_true c1;by_cases c2 : y ≤ B
       ·have d2:=eq_true c2;by_cases c3 : y < tn
        ·have d3:=eq_true c3;go_wp2;go_meet
         case rel=>exact ⟨by rw [zC (hiff.1 ⟨c1,c2,c3⟩)],HB,BX11,BX17,HC,HD⟩
        ·have d3:=eq_false c3;go_wp2;go_meet
         case rel=>exact ⟨by rw [zD (fun h=>c3 (hiff.2 h).2.2)],HB,BX11,BX17,HC,HD⟩
       ·have d2:=eq_false c2;go_wp2;go_meet
        case rel=>exact ⟨by rw [zD (fun h=>c2 (hiff.2 h).2.1)],HB,BX11,BX17,HC,HD⟩
      ·have d1:=eq_false c1;go_wp2;go_meet
       case rel=>exact ⟨by rw [zD (fun h=>c1 (hiff.2 h).1)],HB,BX11,BX17,HC,HD⟩
     case rest =>
      clear HB BX11 BX17 HC HD hiff etn eq1 eq2;obtain ⟨rfl,HB,BX11,BX17,HC,HD⟩:=hcut;go_upto_if 100 with (fail)
      go_cut [] (fun wc=>∃ x : S35,rd_T35 (filled lc a1 kk) (i : Int) = x∧Aside0 (Below w.heap.size w wc)∧Aside0 (Bx w.heap.size 31 g11 wc s_.cs)∧Aside0 (Bx w.heap.size 35 g17 wc #[.int .i32 x.f0,.int .u16 x.f1,.int .u8 x.f2])∧Aside0 (Row k35 s_.c (fun x=>x = lc) wc (Nb (fun k=>k < w.heap.size) w.heap.size [g17,g11]))∧Aside0 (Row k35 d_ (fun x=>x = filled lc a1 kk) wc (Nb (fun k=>k < w.heap.size) w.heap.size [g17,g11])))
      case first =>
       by_cases hin : a1 ≤ i∧i < a1 + kk
       ·have d1 : decide (a1 ≤ i∧i < a1 + kk) = true:=zC hin;have d2:=eq_true hin.1;have d3:=eq_true hin.2;go_wp2_with (first|((with_reducible refine zH (t:=35) (p:=17) rfl ?_);refine bx_store BX17.out rfl rfl rfl rfl (cs':=#[.int .i32 _,.int .u16 _,.int .u8 _]) rfl (by kernel_rfl) rfl (by simp [Value.oneCell']) ?_;intro w_17 hg bx;replace HB:=zA (zK HB.out BX17.out hg);replace BX11:=zA (zN BX11.out hg NE11_17.out);(try replace HC:=zA (mvRow.grown HC.out hg (by simp only [zW,true_or,or_true])));(try replace HD:=zA (mvRow.grown HD.out hg (by simp only [zW,true_or,or_true])));clear BX17;have BX17:=zA bx;clear bx hg));go_meet
        case rel=>exact ⟨blk,by rw [rd_filled hak,if_pos hin],HB,BX11,BX17,HC,HD⟩
       ·have d1 : decide (a1 ≤ i∧i < a1 + kk) = false:=zD hin;have d2:=eq_false hin;go_wp2;go_meet
        case rel=>exact ⟨_,by rw [rd_filled hak,if_neg hin],HB,BX11,BX17,HC,HD⟩
      case rest =>
       clear HB BX11 BX17 HC HD;obtain ⟨x,hx,HB,BX11,BX17,HC,HD⟩:=hcut;obtain ⟨x_,hx_,_,_,hDD⟩:=Row.reads HD.out;cases hx_;obtain ⟨ad',e',hz0,hz1,hz2⟩:=at_T35 hDD (i : Int) (by omega) (by rw [filled_len hak];omega);cases had.symm.trans e';clear hDD e';simp only [Int.toNat_natCast] at hz0 hz1 hz2;rw [hx] at hz0 hz1 hz2;go_upto_region 20 with (fail)
       have hb : Below wc.heap.size wc wc.drew:=(zE _ _).drew;replace BX11:=zA (zM BX11.out hb);replace BX17:=zA (zM BX17.out hb);(try replace HC:=zA (mvRow.call HC.out hb));(try replace HD:=zA (mvRow.call HD.out hb));replace HB:=zA (zJ HB.out HB.out.size hb);clear hb;refine start_ (n:=6) (S:=fun w'=>w'.heap[g17]? = some (.cells (#[.int .i32 x.f0,.int .u16 x.f1,.int .u8 x.f2]) 35 (0,0))∧w'.cell? (adD.add (i * 3)) = some (.int .i32 x.f0)∧w'.cell? ⟨(adD.add (i * 3)).block,(adD.add (i * 3)).off + 1,none⟩ = some (.int .u16 x.f1)∧w'.cell? ⟨(adD.add (i * 3)).block,(adD.add (i * 3)).off + 2,none⟩ = some (.int .u8 x.f2)) (ds:=[]) #[false,false,false,false,false,false] (by kernel_rfl) rfl rfl ⟨BX17.out.bx,hz0,hz1,hz2⟩ (fun hHeld=>?_);generalize World.drew wc = wD at HB BX11 BX17 HC HD hHeld ⊢;refine pure_ (i:=0) (N:=(some 102)) (v:=?_) (a':=?_) #[true,false,false,false,false,false] rfl rfl (by kernel_rfl) (fun _ _ _ h=>h) (Or.inl ⟨by rfl,?_⟩) ?_ ?_;rotate_left
       ·intro w';go_simp;(with_reducible rfl)
       rotate_left
       ·simp only [Act.put,zP,zQ,zR,i64_w,i32_w];rfl
       refine pure_ (i:=1) (N:=(some 103)) (v:=?_) (a':=?_) #[true,true,false,false,false,false] rfl rfl (by kernel_rfl) (fun _ _ _ h=>h) (Or.inl ⟨by rfl,?_⟩) ?_ ?_;rotate_left
       ·intro w';go_simp;(with_reducible rfl)
       rotate_left
       ·simp only [Act.put,zP,zQ,zR,i64_w,i32_w];rfl
       refine pure_ (i:=2) (N:=(some 104)) (v:=?_) (a':=?_) #[true,true,true,false,false,false] rfl rfl (by kernel_rfl) (fun _ _ _ h=>h) (Or.inl ⟨by rfl,?_⟩) ?_ ?_;rotate_left
       ·intro w';go_simp;(with_reducible rfl)
       rotate_left
       ·simp only [Act.put,zP,zQ,zR,i64_w,i32_w];rfl
       refine take_ (i:=3) (N:=(some 105)) (v:=(.agg #[.int .i32 x.f0,.int .u16 x.f1,.int .u8 x.f2])) (a':=?_) #[true,true,true,true,false,false] rfl rfl (by kernel_rfl) (fun _ _ _ h=>h) (Or.inl ⟨by rfl,?_⟩) hHeld ?_ ?_
       ·rintro w' ⟨hs0_,hs1_,hs2_,hs3_⟩
        go_simp
       rotate_left
       ·simp only [Act.put,zP,zQ,zR,i64_w,i32_w];rfl
       refine take_ (i:=4) (N:=(some 106)) (v:=(.agg #[.int .i32 x.f0,.int .u16 x.f1,.int .u8 x.f2])) (a':=?_) #[true,true,true,true,true,false] rfl rfl (by kernel_rfl) (fun _ _ _ h=>h) (Or.inl ⟨by rfl,?_⟩) hHeld ?_ ?_
       ·rintro w' ⟨hs0_,hs1_,hs2_,hs3_⟩
        first|exact bx_yieldw hs0_ rfl rfl Try.underlying35 rfl (by kernel_rfl)|go_simp
       rotate_left
       ·simp only [Act.put,zP,zQ,zR,i64_w,i32_w];rfl
       refine pure_ (i:=5) (N:=(some 107)) (v:=?_) (a':=?_) #[true,true,true,true,true,true] rfl rfl (by kernel_rfl) (fun _ _ _ h=>h) (Or.inl ⟨by rfl,?_⟩) ?_ ?_;rotate_left
       ·intro w';go_simp;(with_reducible rfl)
       rotate_left
       ·simp only [Act.put,zP,zQ,zR,i64_w,i32_w];rfl
       refine done_ (by kernel_rfl) ?_;go_wp2;go_roundg (lc.length - (i + 1))
       case measure=>have:=HK.out;omega
       case rel=>exact ⟨i + 1,by first|rfl|simp,⟨rfl,hlt⟩,HB,BX11,⟨mvRow.drop HC.out⟩,⟨mvRow.drop HD.out⟩⟩
    ·have p2:=eq_false (show ¬ (i : Int) < (lc.length : Int) by omega);have p2':=eq_false hlt;go_wp2;go_ret;exact ⟨rfl,HB.out⟩
end Go.Proofs.Ytooageeehallbaa.Scr
