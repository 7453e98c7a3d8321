/- Package delta's keys: four bytes; where they begin in a list. -/
import Derived.Test.YtmaefdeigienjaaDeltaMap
import Derived.Test.YtmaefdeigienjaaProg
import Derived.DeepKeys4
import Derived.MapViews
import Derived.KernelRfl
namespace Go.Proofs.Ytmaefdeigienjaa.DeltaM
open Go Go.Maps Go.WideElems Go.MapKept Go.RowKit
open Go.ChangeShapes (lits)

theorem laidOut : laidOutB Try.prog = true := by kernel_rfl
theorem row99 : (99 : TypeId) < Try.prog.types.size := of_decide_eq_true (by kernel_rfl)
theorem wide99 : (match Try.prog.underlying 99 with | some (.array _ _) | some (.struct _) => true | _ => false) = true := by rw [Try.underlying99]
theorem kta99 : Try.prog.keyTypeAt 2 99 = true := by kernel_rfl
set_option maxRecDepth 100000 in
theorem law99 : WideMaps.KeyLaw Try.prog 99 := deep_law_laid laidOut (m := 2) (by decide) row99 kta99 wide99
theorem deep99 : Try.prog.keyType 99 = true := by kernel_rfl
theorem cells99 : Try.prog.cellsOf 99 = 4 := by kernel_rfl
theorem cells5 : Try.prog.cellsOf 5 = 1 := by kernel_rfl
theorem zero60 (w : World) : (zeroValue 60).run Try.prog w = .ok (.slice none 0 0) w := by kernel_rfl

/-- four bytes as a key -/
def keyV (q : List Int) : Value := .agg (q.map (Value.int .u8)).toArray
theorem four {q : List Int} (h : q.length = 4) : ∃ a b c d, q = [a, b, c, d] := by
  match q, h with
  | [a, b, c, d], _ => exact ⟨a, b, c, d, rfl⟩
theorem wf8 {x : Int} (h : 0 ≤ x ∧ x < 256) : (Lit.int .u8 x).wf = true := by
  have e : IntKind.u8.max = 255 := by decide
  have e0 : IntKind.u8.min = 0 := by decide
  have h1 : IntKind.u8.min ≤ x := by omega
  have h2 : x ≤ IntKind.u8.max := by omega
  simp only [Lit.wf, decide_eq_true h1, decide_eq_true h2, Bool.and_self]
theorem key_ok {q : List Int} (hq : q.length = 4) (hb : ∀ x ∈ q, 0 ≤ x ∧ x < 256) : ∃ kl, keyOf Try.prog 99 (keyV q) = some kl := by
  obtain ⟨a, b, c, d, rfl⟩ := four hq
  have ha := wf8 (hb a (by simp))
  have hb' := wf8 (hb b (by simp))
  have hc := wf8 (hb c (by simp))
  have hd := wf8 (hb d (by simp))
  have hf : (keyV [a, b, c, d]).formed Try.prog 99 = true := by simp [keyV, Value.formed, Try.underlying99, cells99]
  unfold keyOf
  simp only [Try.underlying99, deep99, hf, Bool.and_self, if_true]
  obtain ⟨m, hm⟩ : ∃ m, Try.prog.types.size = m + 1 := ⟨_, (Nat.succ_pred_eq_of_pos (Nat.lt_of_le_of_lt (Nat.zero_le _) row99)).symm⟩
  rw [hm]
  refine ⟨.string (keyBytes [.int .u8 a, .int .u8 b, .int .u8 c, .int .u8 d]), ?_⟩
  simp [Program.keyLits, Try.underlying99, Try.underlying5, keyV, Value.cells, cells99, cells5, List.range_succ, ha, hb', hc, hd]
theorem key_inj {q q' : List Int} (h : keyV q = keyV q') : q = q' := by
  unfold keyV at h
  simp only [Value.agg.injEq] at h
  have h2 : q.map (Value.int .u8) = q'.map (Value.int .u8) := by simpa using h
  exact (List.map_inj_right (fun a b hab => by cases hab; rfl)).1 h2

/-- four bytes from a place on -/
def q4 (l : List Int) (i : Nat) : List Int := (l.drop i).take 4
theorem q4_len {l : List Int} {i : Nat} (h : i + 4 ≤ l.length) : (q4 l i).length = 4 := by simp [q4]; omega
theorem q4_mem {l : List Int} {i : Nat} {x : Int} (h : x ∈ q4 l i) : x ∈ l := List.mem_of_mem_drop (List.mem_of_mem_take h)
/-- the places below m where q begins -/
def pos (l : List Int) (m : Nat) (q : List Int) : List Int := ((List.range m).filter (fun i => decide (q4 l i = q))).map (fun (i : Nat) => (i : Int))
theorem pos_succ (l : List Int) (m : Nat) (q : List Int) : pos l (m + 1) q = if q4 l m = q then pos l m q ++ [(m : Int)] else pos l m q := by
  unfold pos
  rw [List.range_succ, List.filter_append, List.map_append]
  by_cases h : q4 l m = q
  · rw [if_pos h]; simp [h]
  · rw [if_neg h]; simp [h]
theorem pos_len (l : List Int) (m : Nat) (q : List Int) : (pos l m q).length ≤ m := by
  unfold pos
  rw [List.length_map]
  exact Nat.le_trans (List.length_filter_le _ _) (by simp)
theorem pos_mem {l : List Int} {m : Nat} {q : List Int} {z : Int} (h : z ∈ pos l m q) : 0 ≤ z ∧ z < m := by
  unfold pos at h
  obtain ⟨i, hi, rfl⟩ := List.mem_map.1 h
  have := List.mem_range.1 (List.mem_filter.1 hi).1
  omega

/-- the map holds the places below m of each key -/
structure Idx (l : List Int) (m : Nat) (D : DataW Unit) : Prop where
  isMap : IsMap D
  at_ : ∀ q kl, keyOf Try.prog 99 (keyV q) = some kl → D.atKey kl .nil = dat (pos l m q)
theorem Idx.made (l : List Int) : Idx l 0 (.map []) := ⟨isMap_empty, fun q kl _ => by simp [pos, dat, DataW.atKey]⟩
theorem Idx.step {l : List Int} {m : Nat} {D : DataW Unit} (h : Idx l m D) {kl : Lit} (hk : keyOf Try.prog 99 (keyV (q4 l m)) = some kl) : Idx l (m + 1) (D.put kl (dat (pos l m (q4 l m) ++ [(m : Int)]))) := by
  refine ⟨h.isMap.put _ _, fun q kl' hk' => ?_⟩
  rw [pos_succ]
  by_cases e : q4 l m = q
  · subst e
    rw [if_pos rfl]
    obtain rfl : kl = kl' := Option.some.inj (hk.symm.trans hk')
    exact atKey_put_same h.isMap ((Keyed.of_law law99).key hk) _ _
  · rw [if_neg e, atKey_put_other (fun e' => e (key_inj (law99.inj hk (hk'.trans (congrArg some e'))))), h.at_ q kl' hk']
end Go.Proofs.Ytmaefdeigienjaa.DeltaM
