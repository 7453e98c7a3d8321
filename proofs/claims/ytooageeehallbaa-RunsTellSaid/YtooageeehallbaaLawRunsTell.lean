/- RunsTell: for all cells, all bytes and numbers the law returns true and leaves what came in as it was; no condition. -/
import Derived.Test.YtooageeehallbaaRows
import Derived.Test.YtooageeehallbaaG11
import Derived.WalkKit
import Derived.ProofKit
import Derived.OpenShut
import Derived.ShutString
import Derived.ChangeOld
import Derived.Below
import Derived.SizedLaws
import Derived.Deep.Slices
import Derived.Test.YtooageeehallbaaWSized
namespace Go.Proofs.Ytooageeehallbaa.runsTell
open Go.ChangeShapes Go.WideShapes Go.ChangeAt Go.RowKit
open Go.ChangeMaps (open_string shut_string)
open Go.Proofs.Ytooageeehallbaa.QRunsCut Go.Proofs.Ytooageeehallbaa.Scr Go.Proofs.Ytooageeehallbaa.Runs Go.Proofs.YtooageeehallbaaW.PrintWords Go.Proofs.YtooageeehallbaaW.PrintLast Go.Proofs.YtooageeehallbaaW.PrintMore
set_option linter.unusedVariables false
theorem own : ownKnob Try.prog.godebug = none := by kernel_rfl
theorem laidOut : laidOutB Try.prog = true := by kernel_rfl
def IsRow (k : IntKind) (w : World) (a : Option Addr) (len cap : Nat) (zs : List Int) : Prop :=
  (a = none ∧ len = 0 ∧ cap = 0 ∧ zs = []) ∨
  ∃ x, a = some x ∧ len ≤ cap ∧ cap ≤ maxLen ∧ zs.length = cap ∧ (∀ i, i < zs.length → w.cell? (x.add i) = some (.int k (zs.getD i 0))) ∧ ∀ n ∈ zs, (Lit.int k n).wf = true
instance : Inhabited S35 := ⟨z35⟩
theorem heap35 : Kd.Heap k35 := Kd.heap_iso _ (Kd.heap_pair (Kd.heap_int _) (Kd.heap_pair (Kd.heap_int _) (Kd.heap_int _)))
theorem c21 : Try.prog.cellsOf 21 = 1 := by kernel_rfl
theorem c25 : Try.prog.cellsOf 25 = 1 := by kernel_rfl
theorem c5 : Try.prog.cellsOf 5 = 1 := by kernel_rfl
theorem c35 : Try.prog.cellsOf 35 = 3 := by kernel_rfl
def Byt (l : List Int) : Prop := ∀ x ∈ l, 0 ≤ x ∧ x < 256
theorem row_open {H : Type} {enc : TypeId × Value → H} {W : World} {fuel : Nat} {v : Value} {x : DataW H × List MemPlace} (hf : DataW.trod enc Try.prog W 0 (fun _ => true) true fuel 22 [v] = some x) :
    ∃ A c l, v = .slice A (l : List Int).length c ∧ l.length ≤ c ∧ Kd.C (Kd.int .u8) W A l.length l ∧ Byt l := by
  have key : ∃ a len cap zs, v = .slice a len cap ∧ IsRow .u8 W a len cap zs := by
    rcases open_ints Try.underlying22 Try.underlying5 (by kernel_rfl) hf with ⟨hcs, _⟩ | ⟨x, l, c, zs, hcs, _, hl, hm, hz, _, hcell, hwz⟩
    · obtain rfl : v = .slice none 0 0 := by simpa using hcs
      exact ⟨none, 0, 0, [], rfl, .inl ⟨rfl, rfl, rfl, rfl⟩⟩
    · obtain rfl : v = .slice (some x) l c := by simpa using hcs
      exact ⟨some x, l, c, zs, rfl, .inr ⟨_, rfl, hl, hm, by simpa using hz, hcell, hwz⟩⟩
  obtain ⟨a, len, cap, zs, rfl, hr⟩ := key
  obtain ⟨l, rfl, hrd, hm, hw, hc⟩ := ReadsInt.ofRowC hr
  exact ⟨a, cap, l, rfl, hc, Kd.C_of_reads (d := (0 : Int)) (h1 := fun _ => rfl) hrd, fun x hx => by have := Zig.wf_u8 (hw x hx); omega⟩
set_option maxRecDepth 100000 in
/-- a cell, opened -/
theorem cell_open {H : Type} {enc : TypeId × Value → H} {W : World} {fuel : Nat} {cs : List Value} {x : DataW H × List MemPlace} (hf : DataW.trod enc Try.prog W 0 (fun _ => true) true fuel 35 cs = some x) :
    ∃ e : S35, cs = [.int .i32 e.f0, .int .u16 e.f1, .int .u8 e.f2] ∧ CellT e := by
  obtain ⟨xs, n, _, _, hlen, hxl, hfs⟩ := DataW.trod_struct Try.underlying35 hf
  rw [c35] at hlen
  match cs, hlen with
  | [v0, v1, v2], _ =>
    have hl : xs.length = 3 := hxl
    have g : ∀ (j : Nat) (hj : j < 3), ∃ y, xs[j]? = some y := fun j hj => ⟨_, List.getElem?_eq_getElem (by omega)⟩
    obtain ⟨y0, e0⟩ := g 0 (by decide)
    obtain ⟨y1, e1⟩ := g 1 (by decide)
    obtain ⟨y2, e2⟩ := g 2 (by decide)
    have h0 := hfs 0 { name := "R", type := 21, offset := 0, embedded := false, tag := "", pkgPath := "", byteOffset := 0 } rfl
    have h1 := hfs 1 { name := "Attr", type := 25, offset := 1, embedded := false, tag := "", pkgPath := "", byteOffset := 4 } rfl
    have h2 := hfs 2 { name := "Half", type := 5, offset := 2, embedded := false, tag := "", pkgPath := "", byteOffset := 6 } rfl
    dsimp only at h0 h1 h2
    rw [c21] at h0
    rw [c25] at h1
    rw [c5] at h2
    rw [e0] at h0
    rw [e1] at h1
    rw [e2] at h2
    obtain ⟨k0, i0, _, _⟩ := DataW.trod_int Try.underlying21 (show DataW.trod enc Try.prog W 0 (fun _ => true) true n 21 [v0] = some y0 from h0)
    obtain ⟨k1, i1, _, w1⟩ := DataW.trod_int Try.underlying25 (show DataW.trod enc Try.prog W 0 (fun _ => true) true n 25 [v1] = some y1 from h1)
    obtain ⟨k2, i2, _, w2⟩ := DataW.trod_int Try.underlying5 (show DataW.trod enc Try.prog W 0 (fun _ => true) true n 5 [v2] = some y2 from h2)
    obtain rfl : v0 = .int .i32 k0 := by simpa using i0
    obtain rfl : v1 = .int .u16 k1 := by simpa using i1
    obtain rfl : v2 = .int .u8 k2 := by simpa using i2
    have q1 := Zig.wf_u16 w1
    have q2 := Zig.wf_u8 w2
    exact ⟨⟨k0, k1, k2⟩, rfl, q1.1, q1.2, q2.1, q2.2⟩
/-- a row of cells, opened -/
theorem cells_open {H : Type} {enc : TypeId × Value → H} {W : World} {fuel : Nat} {v : Value} {x : DataW H × List MemPlace} (hf : DataW.trod enc Try.prog W 0 (fun _ => true) true fuel 24 [v] = some x) :
    ∃ (l : List S35) (A : Option Addr) (c : Nat), v = .slice A l.length c ∧ l.length ≤ c ∧ Kd.C k35 W A l.length l ∧ ∀ e ∈ l, CellT e := by
  rcases Go.Deep.open_slice Try.underlying24 hf with ⟨hcs, _⟩ | ⟨a, len, cap, m, n, D, Pl, hcs, _, hl, hm, hmm, _, hel⟩
  · obtain rfl : v = .slice none 0 0 := by simpa using hcs
    exact ⟨[], none, 0, rfl, Nat.le_refl _, Kd.C_nil _ _, fun e he => by cases he⟩
  · obtain rfl : v = .slice (some a) len cap := by simpa using hcs
    have hm2 : m = cap := by rw [hmm]; rfl
    subst hm2
    obtain ⟨E, hE⟩ := Go.Deep.choose_lt (α := S35) (n := m) (p := fun i e => (∀ j u, [Value.int .i32 e.f0, .int .u16 e.f1, .int .u8 e.f2][j]? = some u → W.cell? (a.add (i * 3 + j)) = some u) ∧ CellT e) (fun i hi => by
      obtain ⟨cs', h1, h2⟩ := hel i hi
      obtain ⟨e, rfl, ht⟩ := cell_open h2
      refine ⟨e, fun j u hj => ?_, ht⟩
      rw [c35] at h1
      obtain ⟨_, _, h4⟩ := World.cells?_some h1
      have hj5 : j < 3 := by have := (List.getElem?_eq_some_iff.1 hj).1; simpa using this
      rw [← Addr.add_add, h4 j hj5]
      exact hj)
    have hlen : ((List.range len).map E).length = len := by simp
    refine ⟨(List.range len).map E, some a, m, by rw [hlen], by rw [hlen]; exact hl, ?_, fun e he => ?_⟩
    · rw [hlen]
      refine ⟨hlen, by unfold maxLen at hm; omega, fun _ => ⟨a, rfl, fun j p hp => ?_⟩⟩
      have hj : j < len := by have := (List.getElem?_eq_some_iff.1 hp).1; simpa using this
      obtain rfl : E j = p := by simpa [hj] using hp
      exact ⟨_, rfl, k35_mk W (E j), (hE j (by omega)).1⟩
    · obtain ⟨j, hj, rfl⟩ := List.mem_map.1 he
      exact (hE j (by have := List.mem_range.1 hj; omega)).2
set_option maxRecDepth 100000 in
theorem lifted (os : Os) (started : os.Started) (H : Type) (enc : TypeId × Value → H) :
    ReturnsInHanded {} Try.checked os 5 .any (Rows.runsTellSpec.pre6 enc Try.prog Try.f5 Rows.runsTellRow.domain false) (Rows.runsTellSpec.post enc Try.prog Try.f5 false true false false) := by
  refine returnsInHanded_of_change_sized (C := Try.checked) own started (by kernel_rfl) Try.func5
    (ChangeSpec.witness6 (enc := enc) (C := Try.checked) false ⟨#[], #[.slice none 0 0, .slice none 0 0, .slice none 0 0, .int .i64 0, .int .u8 0], []⟩ 8 (by kernel_rfl) (by kernel_rfl) (by kernel_rfl) (by kernel_rfl)) ?_
  intro W base args ds gs before hval0 hW hcnd hsz0 _
  have hval : ∀ (j : Nat) t v, Try.f5.params[j]? = some t → args[j]? = some v → Value.okWide Try.prog W .any base t v := hval0
  have hW' := hW
  obtain ⟨p, q, hA0, hV, rfl, hfz, hnd⟩ := hW
  have hA : DataW.TrodAll enc Try.prog W 0 (fun _ => true) true Try.f5.params.toList args.toList ds p := hA0
  rw [Try.params5] at hA hval
  obtain ⟨v0, vs0, d0, ds0, p0, q0, hargs, rfl, rfl, h0, r0⟩ := trodAll_cons hA
  obtain ⟨v1, vs1, d1, ds1, p1, q1, rfl, rfl, rfl, h1, r1⟩ := trodAll_cons r0
  obtain ⟨v2, vs2, d2, ds2, p2, q2, rfl, rfl, rfl, h2, r2⟩ := trodAll_cons r1
  obtain ⟨v3, vs3, d3, ds3, p3, q3, rfl, rfl, rfl, h3, r3⟩ := trodAll_cons r2
  obtain ⟨v4, vs4, d4, ds4, p4, q4, rfl, rfl, rfl, h4, r4⟩ := trodAll_cons r3
  obtain ⟨rfl, rfl, rfl⟩ := trodAll_nil r4
  obtain rfl : args = #[v0, v1, v2, v3, v4] := by cases args; simp_all
  obtain ⟨rfl, rfl⟩ := trodVars_none hV
  have lt : ∀ {t : TypeId} {v : Value} {d : DataW H} {p : List MemPlace}, DataW.Trod enc Try.prog W 0 (fun _ => true) true t v d p → ∀ x ∈ p, x.block < W.heap.size := fun h => by obtain ⟨m, hm⟩ := h; exact DataW.trod_lt m _ _ _ hm
  have k0 := h0
  have k1 := h1
  have k2 := h2
  obtain ⟨a0, len0, cap0, rfl⟩ := okWide_slice Try.underlying24 (hval 0 24 v0 rfl rfl)
  obtain ⟨l0, hl0, hc0, hC0, ht0⟩ : ∃ l : List S35, len0 = l.length ∧ l.length ≤ cap0 ∧ Kd.C k35 W a0 l.length l ∧ ∀ e ∈ l, CellT e := by
    obtain ⟨fuel, hf⟩ := h0
    obtain ⟨l, A, c, h, h2, h3, h4⟩ := cells_open (show DataW.trod enc Try.prog W 0 (fun _ => true) true fuel 24 [.slice a0 len0 cap0] = some _ from hf)
    simp only [Value.slice.injEq] at h
    obtain ⟨rfl, rfl, rfl⟩ := h
    exact ⟨l, rfl, h2, h3, h4⟩
  subst hl0
  obtain ⟨a1, len1, cap1, rfl⟩ := okWide_slice Try.underlying22 (hval 1 22 v1 rfl rfl)
  obtain ⟨l1, hl1, hc1, hC1, hb1⟩ : ∃ l : List Int, len1 = l.length ∧ l.length ≤ cap1 ∧ Kd.C (Kd.int .u8) W a1 l.length l ∧ Byt l := by
    obtain ⟨fuel, hf⟩ := h1
    obtain ⟨A, c, l, h, h2, h3, h4⟩ := row_open (show DataW.trod enc Try.prog W 0 (fun _ => true) true fuel 22 [.slice a1 len1 cap1] = some _ from hf)
    simp only [Value.slice.injEq] at h
    obtain ⟨rfl, rfl, rfl⟩ := h
    exact ⟨l, rfl, h2, h3, h4⟩
  subst hl1
  obtain ⟨a2, len2, cap2, rfl⟩ := okWide_slice Try.underlying22 (hval 2 22 v2 rfl rfl)
  obtain ⟨l2, hl2, hc2, hC2, hb2⟩ : ∃ l : List Int, len2 = l.length ∧ l.length ≤ cap2 ∧ Kd.C (Kd.int .u8) W a2 l.length l ∧ Byt l := by
    obtain ⟨fuel, hf⟩ := h2
    obtain ⟨A, c, l, h, h2, h3, h4⟩ := row_open (show DataW.trod enc Try.prog W 0 (fun _ => true) true fuel 22 [.slice a2 len2 cap2] = some _ from hf)
    simp only [Value.slice.injEq] at h
    obtain ⟨rfl, rfl, rfl⟩ := h
    exact ⟨l, rfl, h2, h3, h4⟩
  subst hl2
  obtain ⟨a3, rfl, rfl, rfl, w3⟩ := open_int Try.underlying3 (hval 3 3 v3 rfl rfl) h3
  obtain ⟨a4, rfl, rfl, rfl, w4⟩ := open_int Try.underlying5 (hval 4 5 v4 rfl rfl) h4
  clear hA0 hval0 hsz0
  have hr0 : Rw k35 a0 cap0 l0 W := mvRow.mono (ok := fun k => k < W.heap.size) ⟨l0, rfl, Kd.V_mk hc0 (Kd.C_F heap35 hC0)⟩ (fun _ _ => trivial)
  have hr1 : Row (Kd.int .u8) ⟨a1, l1.length, cap1⟩ Bytes8 W (fun k => k < W.heap.size) := ⟨l1, fun x hx => by have := hb1 x hx; omega, Kd.V_mk hc1 (Kd.C_F (Kd.heap_int .u8) hC1)⟩
  have hr2 : Rw (Kd.int .u8) a2 cap2 l2 W := mvRow.mono (ok := fun k => k < W.heap.size) ⟨l2, rfl, Kd.V_mk hc2 (Kd.C_F (Kd.heap_int .u8) hC2)⟩ (fun _ _ => trivial)
  refine (Scr.runsTell_walk a0 cap0 l0 ⟨a1, l1.length, cap1⟩ a2 cap2 l2 a3 a4 (by have := Zig.wf_u8 w4; omega) (by have := Zig.wf_i64 w3; omega) W hr0 ht0 hr1 hr2 hb2).mono fun e W' ⟨he, bel⟩ => ?_
  subst he
  exact ⟨_, rfl, _, _, _, [], _, [], hW', trodAll_mk1 (shut_bool Try.underlying4 _), (trodAll_cons_mk (Below.trod laidOut (by kernel_rfl) (of_decide_eq_true (by kernel_rfl)) k0 bel (lt k0)) (trodAll_cons_mk (Below.trod laidOut (by kernel_rfl) (of_decide_eq_true (by kernel_rfl)) k1 bel (lt k1)) (trodAll_cons_mk (Below.trod laidOut (by kernel_rfl) (of_decide_eq_true (by kernel_rfl)) k2 bel (lt k2)) (trodAll_cons_mk (shut_int Try.underlying3 w3) (trodAll_cons_mk (shut_int Try.underlying5 w4) trodAll_mk0))))), rfl, bel.frame _, fun h => by cases h⟩
theorem over : Rows.runsTellRow.holds Try.pinned (OpenSpec.ofChange Rows.runsTellSpec) :=
  OpenClaim.holds_of_wide 5 Try.f5 rfl rfl rfl rfl rfl rfl rfl ⟨rfl, rfl, rfl, rfl, rfl⟩ rfl rfl rfl rfl rfl (by kernel_rfl) Try.func5 (by kernel_rfl)
    (of_decide_eq_true (by kernel_rfl)) (by unfold Func.isWrapper; first | (rw [if_pos (by decide +kernel)]; kernel_rfl) | (rw [if_neg (by decide +kernel)]; exact ⟨rfl, rfl⟩))
    (fun os started H enc _ => lifted os started H enc)
theorem proved : Rows.RunsTellSaid := over
#print axioms proved
end Go.Proofs.Ytooageeehallbaa.runsTell
namespace Go.Proofs.Ytooageeehallbaa
/-- The row, under a short name, for the claim. -/
theorem runsTell_holds : Rows.RunsTellSaid := runsTell.proved
end Go.Proofs.Ytooageeehallbaa
