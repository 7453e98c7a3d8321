/- Package delta: the map of places: the walk of index. -/
import Derived.Test.YtmaefdeigienjaaProg
import Derived.Lib.LazyBuf
import Derived.Below
import Derived.Deep.Draws
import Derived.Deep.AppendLies
import Derived.Maps.AppendAt
import Derived.OwnWalk
import Derived.Laws.BytesArg
import Derived.Laws.MakeOwn
import Derived.Laws.OwnMore
import Derived.Deep.OwnRows
import Derived.Tactics
import Derived.Lib.ConvBytes
import Derived.Laws.Slices
import Derived.WalkKit
import Derived.KernelRfl
import Derived.RowKit3
import Derived.Deep.LoopGhost
import Derived.Deep.QuietTactic
import Derived.BigQuiet
import Derived.WideLaws
import Derived.Deep.DeepCutAuto
import Derived.Deep.CutBlock
import Derived.Deep.RegionHeld3
import Derived.Laws.Rows
import Derived.Lib.AppendStr
import Derived.ArgAppend
import Derived.Laws.IdiomCopy
import Derived.OrdersHeld
import Derived.Laws.BitsLemmas
import Derived.RowKit
import Derived.Test.YtmaefdeigienjaaWWords
import Derived.Test.YtmaefdeigienjaaWLast
import Derived.Test.YtmaefdeigienjaaWTab
import Derived.Test.YtmaefdeigienjaaWFour
import Derived.Test.YtmaefdeigienjaaWQPut
import Derived.Test.YtmaefdeigienjaaWApart
import Derived.Test.YtmaefdeigienjaaWArr
import Derived.Test.YtmaefdeigienjaaWZeros
import Derived.Test.YtmaefdeigienjaaWFoot
import Derived.Test.YtmaefdeigienjaaWKept
import Derived.Test.YtmaefdeigienjaaWShare
import Derived.Test.YtmaefdeigienjaaWN
import Derived.Test.YtmaefdeigienjaaWFootNe
import Derived.Test.YtmaefdeigienjaaWAt
import Derived.Test.YtmaefdeigienjaaWEqStruct
import Derived.Test.YtmaefdeigienjaaWRepsOne
import Derived.Test.YtmaefdeigienjaaWInv
import Derived.Test.YtmaefdeigienjaaWInvWords
import Derived.Test.YtmaefdeigienjaaWGuard
import Derived.Test.YtmaefdeigienjaaWNEv
import Derived.Test.YtmaefdeigienjaaWMore
import Derived.Test.YtmaefdeigienjaaDeltaIdx
import Derived.Deep.MidRow
import Derived.Deep.WholeRow
namespace Go.Proofs.Ytmaefdeigienjaa.DeltaM
open Go Go.RowKit Go.Maps Go.Proofs.YtmaefdeigienjaaW.PrintWords Go.Proofs.YtmaefdeigienjaaW.PrintLast Go.Proofs.YtmaefdeigienjaaW.PrintMore
attribute [local go_sem] max2_int min2_int max_two min_two max_three min_three max_four min_four
set_option linter.unusedVariables false
set_option linter.unusedSimpArgs false

theorem info3 : (Try.prog.info? 3).map (fun i => (i.zero, i.size, i.bytes)) = some (some (.int .i64 0), 1, 8) := by kernel_rfl
theorem size99 : (Try.prog.info? 99).map (·.size) = some 4 := by kernel_rfl
theorem info99 : (Try.prog.info? 99).map (fun i => (i.zero, i.size)) = some (some (.agg #[.int .u8 0, .int .u8 0, .int .u8 0, .int .u8 0]), 4) := by kernel_rfl
theorem gate_entry {w : World} {ops : Array Oper} {rest : List Oper} {o : Oper} {a : Act} {Q : Exit → Act → World → Prop} {P : Program} {t : TypeId} {m x : Operand} (h : o.op = Op.mapEntry t m x) (g : wpList P ops Q (o :: rest) a w) : wpList P ops Q (o :: rest) a w := g
theorem gate_estore {w : World} {ops : Array Oper} {rest : List Oper} {o : Oper} {a : Act} {Q : Exit → Act → World → Prop} {P : Program} {t : TypeId} {m x y : Operand} (h : o.op = Op.entryStore t m x y) (g : wpList P ops Q (o :: rest) a w) : wpList P ops Q (o :: rest) a w := g
theorem gate_load99 {w : World} {ops : Array Oper} {rest : List Oper} {o : Oper} {a : Act} {Q : Exit → Act → World → Prop} {P : Program} {x : Operand} (h : o.op = Op.load 99 x) (g : wpList P ops Q (o :: rest) a w) : wpList P ops Q (o :: rest) a w := g
/-- an array of some cells out of wherever they lie -/
theorem wpList_load_at {P : Program} {ops : Array Oper} {rest : List Oper} {op : Oper} {a : Act} {w : World} {Q : Exit → Act → World → Prop} (hgd : op.guard = none) (ty : TypeId) (x : Operand) (ho : op.op = .load ty x)
    (ad : Addr) (hx : a.eval x = .pointer (some ad)) (cs : List Value) (n : Nat) (e : TypeId) (hc : ∀ j v, cs[j]? = some v → w.cell? (ad.add j) = some v)
    (hu : P.underlying ty = some (.array n e)) (hi : (P.info? ty).map (·.size) = some cs.length)
    (h : wpList P ops Q rest (a.put op.dst (.agg cs.toArray)) w) : wpList P ops Q (op :: rest) a w :=
  wpList_plain hgd fun _ hK => by
    have hl : (loadCells ad cs.length).run P w = .ok cs.toArray w := run_loadCells_list (P := P) w ad cs hc
    have hv : (loadVar ty ad).run P w = .ok (.agg cs.toArray) w := by
      cases hq : P.info? ty with
      | none => simp [hq] at hi
      | some i =>
        have hs : i.size = cs.length := by simpa [hq] using hi
        have hagg : (isAgg ty).run P w = .ok true w := by
          unfold isAgg
          rw [Sem.run_bind, run_underlying hu w]
          simp
        simp [loadVar, Sem.run_bind, hagg, sizeOf, typeInfo, hq, hs, hl]
    unfold Oper.wp execOp
    simp only [ho, hx, Instr.loadAt, Instr.sureAddr, Sem.run_bind, Sem.run_pure, Result.andThen_ok, hv]
    exact hK _ _ h

theorem cells4 {A : Option Addr} {l : List Int} {w : World} {k : Nat} (hr : Kd.C (Kd.int .u8) w A l.length l) (h : k + 4 ≤ l.length) : ∃ ad, A = some ad ∧ ∀ j v, ((q4 l k).map (Value.int .u8))[j]? = some v → w.cell? ((ad.add k).add j) = some v := by
  obtain ⟨ad, rfl, _⟩ := Kd.at_int hr 0 (by omega) (by omega)
  refine ⟨ad, rfl, fun j v hv => ?_⟩
  have hj : j < 4 := by
    have := (List.getElem?_eq_some_iff.1 hv).1
    simp [q4] at this
    omega
  obtain ⟨ad', e, hc⟩ := Kd.at_int hr ((k + j : Nat) : Int) (by omega) (by omega)
  cases e
  rw [Addr.add_add]
  have e2 : ((k + j : Nat) : Int).toNat = k + j := by omega
  rw [e2] at hc
  rw [hc]
  simp only [q4, List.getElem?_map, List.getElem?_take, List.getElem?_drop, if_pos hj] at hv
  have hlt : k + j < l.length := by omega
  rw [List.getElem?_eq_getElem hlt] at hv
  simp only [Option.map_some, Option.some.injEq] at hv
  rw [← hv]
  unfold rd
  rw [e2, List.getD_eq_getElem?_getD, List.getElem?_eq_getElem hlt]
  rfl

set_option maxHeartbeats 8000000 in
set_option maxRecDepth 100000 in
theorem index_calls (A : Option Addr) (c : Nat) (l : List Int) (w : World) (hr : Kd.C (Kd.int .u8) w A l.length l) (hc : l.length ≤ c) (hl : l.length ≤ 100000) (hb : ∀ x ∈ l, 0 ≤ x ∧ x < 256) :
    Calls Try.prog 44 #[.slice A l.length c] w fun e w' => e = .returned (.map (some w.heap.size)) ∧ (∃ D n, w'.ownsGroups Try.prog 99 (w.heap.size + 1) 3 .i64 w.heap.size n D ∧ Idx l (l.length - 3) D ∧ n ≤ l.length) ∧ Below w.heap.size w w' ∧ w.heap.size + 1 ≤ w'.heap.size := by
  have hmm := @run_makeMap Try.prog
  obtain ⟨i0, hi, hz0, hz1, hz2⟩ := info_parts info3
  go_enter Try.func44, Try.ntmps44
  go_wp2
  go_loopw [4] (fun i wr => ∃ k : Nat, k ≤ l.length - 3 ∧ i = .int .i64 k ∧ (∃ D, wr.ownsGroups Try.prog 99 (w.heap.size + 1) 3 .i64 w.heap.size k D ∧ Idx l k D) ∧ Below w.heap.size w wr ∧ w.heap.size + 1 ≤ wr.heap.size)
    (fun i _ => l.length - 3 - (intOf i).toNat)
  case atStart => exact ⟨0, Nat.zero_le _, rfl, ⟨_, World.ownsGroups_made _ _ _ _ _, Idx.made l⟩, (Below.refl _ _).alloc (Nat.le_refl _) _, by simp⟩
  case round =>
    obtain ⟨k, hk, rfl, ⟨D, hown, hidx⟩, hnx, hws⟩ := hrel
    have w4 : wrap64 ((k : Int) + 4) = (k : Int) + 4 := by unfold wrap64; omega
    by_cases hlt : k + 4 ≤ l.length
    · obtain ⟨ad, rfl, hcell⟩ := cells4 hr hlt
      have hcell2 : ∀ j v, ((q4 l k).map (Value.int .u8))[j]? = some v → wr.cell? ((ad.add k).add j) = some v := fun j v hv => (hcell j v hv) ▸ (hnx.cell (World.block_lt_of_cell? _ _ (hcell j v hv)))
      have hd : decide ((k : Int) + 4 ≤ (l.length : Int)) = true := by simp; omega
      have hkc : decide ((k : Int) + 4 ≤ (c : Int)) = true := by simp; omega
      have hk0 : decide ((0 : Int) ≤ (k : Int)) = true := by simp
      have harr : ∀ w' : World, (Instr.arrayAt 99 (.slice (some (ad.add k)) 4 (c - k))).run Try.prog w' = .ok (.pointer (some (ad.add k))) w' := fun w' => by simp [Instr.arrayAt, run_underlying Try.underlying99, Result.andThen]
      have hqn : ((q4 l k).map (Value.int .u8)).length = 4 := by rw [List.length_map]; exact q4_len hlt
      have hq1 : ((q4 l k).map (Value.int .u8)).toArray.all (·.oneCell') = true := all_oneCell_toArray (fun v hv => by obtain ⟨z, _, rfl⟩ := List.mem_map.1 hv; rfl)
      have hsz : (Try.prog.info? 99).map (·.size) = some ((q4 l k).map (Value.int .u8)).length := by rw [hqn]; exact (zero_of_info info99).2
      have hsz' : (Try.prog.info? 99).map (·.size) = some ((q4 l k).map (Value.int .u8)).toArray.size := by rw [List.size_toArray]; exact hsz
      have hold : (#[Value.int .u8 0, .int .u8 0, .int .u8 0, .int .u8 0] : Array Value).size = ((q4 l k).map (Value.int .u8)).toArray.size := by show 4 = ((q4 l k).map (Value.int .u8)).length; rw [hqn]
      obtain ⟨kl, hkey⟩ := key_ok (q4_len hlt) (fun x hx => hb x (q4_mem hx))
      have hv99 := (zero_of_info info99).1
      have hal : wr.grownBy (wr.alloc (.cells ((q4 l k).map (Value.int .u8)).toArray 99)) none := World.grownBy_alloc _ _ _
      have hown1 := hown.kept hal (fun e => by cases e) (fun _ _ _ x _ => by cases x.val.ownBlock <;> simp)
      have hcell1 := heap_alloc_last wr (.cells ((q4 l k).map (Value.int .u8)).toArray 99)
      have hkv : keyV (q4 l k) = .agg ((q4 l k).map (Value.int .u8)).toArray := rfl
      rw [hkv] at hkey
      have hidx1 := hidx.step hkey
      have hat0 := hidx.at_ _ _ hkey
      have hpl := pos_len l k (q4 l k)
      generalize pos l k (q4 l k) = zs0 at *
      generalize (q4 l k).map (Value.int .u8) = cs at *
      go_upto_region 6 with (first | (refine wpList_load_at rfl 99 _ rfl (ad.add k) rfl cs 4 5 hcell2 Try.underlying99 hsz ?_) | (refine wpList_store_row rfl 99 _ _ rfl _ cs.toArray rfl rfl 99 #[.int .u8 0, .int .u8 0, .int .u8 0, .int .u8 0] (heap_alloc_last _ _) hsz' hold hq1 ?_))
      rw [World.setRow_alloc_new]
      have hb1 : Below w.heap.size w (wr.alloc (.cells cs.toArray 99)) := hnx.alloc hnx.size _
      have hs1 : w.heap.size + 1 ≤ (wr.alloc (.cells cs.toArray 99)).heap.size := by simp; omega
      clear hal hcell hcell2 hown hnx hws
      generalize wr.heap.size = g at *
      generalize wr.alloc (.cells cs.toArray 99) = W1 at *
      have hown2 : (W1.alloc (.cells #[.int .i64 k] 3)).ownsGroups Try.prog 99 (w.heap.size + 1) 3 .i64 w.heap.size k D := hown1.kept (World.grownBy_alloc _ _ none) (fun e => by cases e) (fun _ _ _ x _ => by cases x.val.ownBlock <;> simp)
      have hnew : ∀ j u, ([Value.int .i64 k] : List Value)[j]? = some u → (W1.alloc (.cells #[.int .i64 k] 3)).cell? ((⟨W1.heap.size, 0, none⟩ : Addr).add j) = some u := cell_one_new _ _ _
      go_wp2_with (first
        | ((with_reducible refine gate_load99 (x := .tmp 5) rfl ?_); refine wpList_load_row rfl 99 _ rfl g rfl 99 cs.toArray (0, 0) (.array 4 5) hcell1 Try.underlying99 rfl hsz' ?_)
        | ((with_reducible refine gate_entry (t := 79) (m := .tmp 21) (x := .tmp 22) rfl ?_); refine wpList_mapEntry_groups _ rfl _ _ 79 rfl 99 60 3 .i64 law99 Try.underlying79 zero60 (w.heap.size + 1) w.heap.size k D rfl hown2 (by unfold maxLen; omega) _ kl rfl hkey ?_; intro v zs st we hat hoi hzl hge hback)
        | (at_builtin; refine wpList_append_own_at _ rfl _ _ 60 rfl (w.heap.size + 1) 3 i0 (.int .i64 0) 1 8 Try.underlying60 hi hz0 hz1 hz2 rfl (by decide) _ _ _ rfl hoi.1 ⟨W1.heap.size, 0, none⟩ 1 1 [.int .i64 k] rfl rfl (fun j u hu => ?cell) (ints_oneCell .i64 [(k : Int)]) (by unfold maxLen; omega) (by omega) ?base ?_; (case cell => rw [Addr.add_mid]; rw [World.cell?_of_block (w := W1.alloc (.cells #[.int .i64 k] 3)) (hge.block W1.heap.size (by simp) (fun e => by have e' := Option.some.inj e; omega))]; have hu' := hnew j u hu; rwa [Addr.add_mid] at hu'); (case base => exact Nat.le_trans hs1 (Nat.le_trans (by simp) hge.size)); intro v' w1 hown' hgrow hnil hloc)
        | ((with_reducible refine gate_estore (t := 79) (m := .tmp 21) (x := .tmp 28) (y := .tmp 27) rfl ?_); refine wpList_entryStore_groups _ rfl _ _ _ 79 rfl hback rfl rfl rfl hgrow (hoi.appended hown' (WalkArith.wf_i64 (by omega))) (by simp; omega) (hloc.imp id (fun h => ⟨_, h, Nat.le_refl _⟩)) ?_; intro w2 hown3 hgrow3)
        | go_in)
      have hz := dat_row hoi (hat0.symm.trans hat)
      have hap := hoi.appended hown' (WalkArith.wf_i64 (by omega))
      have hown4 : w2.ownsGroups Try.prog 99 (w.heap.size + 1) 3 .i64 w.heap.size (k + 1) (D.put kl (rowDatum .i64 v' (zs ++ [(k : Int)]))) := hown3
      rw [row_dat hap (by simp), hz] at hown4
      have b2 : Below w.heap.size w (W1.alloc (.cells #[.int .i64 k] 3)) := hb1.alloc (by omega) _
      have b3 : Below w.heap.size w we := b2.grown hge (by simp; omega) (fun j hj => by cases hj; exact Nat.le_refl _)
      have s3 : w.heap.size + 1 ≤ we.heap.size := Nat.le_trans hs1 (Nat.le_trans (by simp) hge.size)
      have b4 : Below w.heap.size w w1 := b3.grown hgrow (by omega) (fun j hj => Nat.le_trans (Nat.le_succ _) (hoi.1.lt j hj).1)
      have s4 := Nat.le_trans s3 hgrow.size
      have b5 : Below w.heap.size w w2 := b4.grown hgrow3 (by omega) (fun j hj => by cases hj; exact Nat.le_refl _)
      have s5 := Nat.le_trans s4 hgrow3.size
      refine ⟨⟨k + 1, by omega, by simp, ⟨_, hown4, hidx1⟩, b5, s5⟩, ?_⟩
      simp only [intOf]
      omega
    · have hd : decide ((k : Int) + 4 ≤ (l.length : Int)) = false := by simp; omega
      have : k = l.length - 3 := by omega
      go_wp2
      go_ret
      exact ⟨rfl, ⟨D, k, hown, this ▸ hidx, by omega⟩, hnx, hws⟩
end Go.Proofs.Ytmaefdeigienjaa.DeltaM
