/- EventTells: for every event, every list of events, every bytes and numbers the law returns true and leaves what came in as it was; no condition. -/
import Derived.Test.YtmaefdeigienjaaRows
import Derived.Test.YtmaefdeigienjaaQEventTellsx13
import Derived.Test.YtmaefdeigienjaaPureEventTells
import Derived.WalkKit
import Derived.ProofKit
import Derived.OpenShut
import Derived.ShutString
import Derived.ChangeOld
import Derived.Below
import Derived.SizedLaws
import Derived.Deep.Slices
import Derived.Test.YtmaefdeigienjaaWSized
namespace Go.Proofs.Ytmaefdeigienjaa.eventTells
open Go.ChangeShapes Go.WideShapes Go.ChangeAt Go.RowKit
open Go.ChangeMaps (open_string shut_string)
open Go.Proofs.Ytmaefdeigienjaa.QEventTells Go.Proofs.YtmaefdeigienjaaW.PrintWords Go.Proofs.YtmaefdeigienjaaW.PrintLast Go.Proofs.YtmaefdeigienjaaW.PrintMore
set_option linter.unusedVariables false
theorem own : ownKnob Try.prog.godebug = none := by kernel_rfl
theorem laidOut : laidOutB Try.prog = true := by kernel_rfl
def IsRow (k : IntKind) (w : World) (a : Option Addr) (len cap : Nat) (zs : List Int) : Prop :=
  (a = none ∧ len = 0 ∧ cap = 0 ∧ zs = []) ∨
  ∃ x, a = some x ∧ len ≤ cap ∧ cap ≤ maxLen ∧ zs.length = cap ∧ (∀ i, i < zs.length → w.cell? (x.add i) = some (.int k (zs.getD i 0))) ∧ ∀ n ∈ zs, (Lit.int k n).wf = true
instance : Inhabited S30 := ⟨z30⟩
theorem heap30 : Kd.Heap k30 := Kd.heap_iso _ (Kd.heap_pair (Kd.heap_int _) (Kd.heap_pair (Kd.heap_int _) (Kd.heap_pair (Kd.heap_slice 5 (Kd.heap_int .u8)) (Kd.heap_pair (Kd.heap_int _) (Kd.heap_int _)))))
theorem c22 : Try.prog.cellsOf 22 = 1 := by kernel_rfl
theorem c2 : Try.prog.cellsOf 2 = 1 := by kernel_rfl
theorem c3 : Try.prog.cellsOf 3 = 1 := by kernel_rfl
theorem c30 : Try.prog.cellsOf 30 = 5 := by kernel_rfl
theorem row_open {H : Type} {enc : TypeId × Value → H} {W : World} {fuel : Nat} {v : Value} {x : DataW H × List MemPlace} (hf : DataW.trod enc Try.prog W 0 (fun _ => true) true fuel 22 [v] = some x) :
    ∃ A c l, v = .slice A (l : List Int).length c ∧ l.length ≤ c ∧ Kd.C (Kd.int .u8) W A l.length l ∧ Pure.Byt l := by
  have key : ∃ a len cap zs, v = .slice a len cap ∧ IsRow .u8 W a len cap zs := by
    rcases open_ints Try.underlying22 Try.underlying5 (by kernel_rfl) hf with ⟨hcs, _⟩ | ⟨x, l, c, zs, hcs, _, hl, hm, hz, _, hcell, hwz⟩
    · obtain rfl : v = .slice none 0 0 := by simpa using hcs
      exact ⟨none, 0, 0, [], rfl, .inl ⟨rfl, rfl, rfl, rfl⟩⟩
    · obtain rfl : v = .slice (some x) l c := by simpa using hcs
      exact ⟨some x, l, c, zs, rfl, .inr ⟨_, rfl, hl, hm, by simpa using hz, hcell, hwz⟩⟩
  obtain ⟨a, len, cap, zs, rfl, hr⟩ := key
  obtain ⟨l, rfl, hrd, hm, hw, hc⟩ := ReadsInt.ofRowC hr
  exact ⟨a, cap, l, rfl, hc, Kd.C_of_reads (d := (0 : Int)) (h1 := fun _ => rfl) hrd, fun x hx => by have := Zig.wf_u8 (hw x hx); omega⟩
set_option maxRecDepth 100000 in
/-- an event's cells, opened -/
theorem ev_open {H : Type} {enc : TypeId × Value → H} {W : World} {fuel : Nat} {cs : List Value} {x : DataW H × List MemPlace} (hf : DataW.trod enc Try.prog W 0 (fun _ => true) true fuel 30 cs = some x) :
    ∃ (e : S30) (A : Option Addr) (c : Nat), cs = [.int .i64 e.f0, .int .i64 e.f1, .slice A e.f2.length c, .int .i64 e.f3, .int .i64 e.f4] ∧ e.f2.length ≤ c ∧ Kd.C (Kd.int .u8) W A e.f2.length e.f2 ∧ Pure.Byt e.f2 := by
  obtain ⟨xs, n, _, _, hlen, hxl, hfs⟩ := DataW.trod_struct Try.underlying30 hf
  rw [c30] at hlen
  match cs, hlen with
  | [v0, v1, v2, v3, v4], _ =>
    have hl : xs.length = 5 := hxl
    have g : ∀ (j : Nat) (hj : j < 5), ∃ y, xs[j]? = some y := fun j hj => ⟨_, List.getElem?_eq_getElem (by omega)⟩
    obtain ⟨y0, e0⟩ := g 0 (by decide)
    obtain ⟨y1, e1⟩ := g 1 (by decide)
    obtain ⟨y2, e2⟩ := g 2 (by decide)
    obtain ⟨y3, e3⟩ := g 3 (by decide)
    obtain ⟨y4, e4⟩ := g 4 (by decide)
    have h0 := hfs 0 { name := "Tick", type := 2, offset := 0, embedded := false, tag := "", pkgPath := "", byteOffset := 0 } rfl
    have h1 := hfs 1 { name := "Kind", type := 3, offset := 1, embedded := false, tag := "", pkgPath := "", byteOffset := 8 } rfl
    have h2 := hfs 2 { name := "Data", type := 22, offset := 2, embedded := false, tag := "", pkgPath := "", byteOffset := 16 } rfl
    have h3 := hfs 3 { name := "Rows", type := 3, offset := 3, embedded := false, tag := "", pkgPath := "", byteOffset := 40 } rfl
    have h4 := hfs 4 { name := "Cols", type := 3, offset := 4, embedded := false, tag := "", pkgPath := "", byteOffset := 48 } rfl
    dsimp only at h0 h1 h2 h3 h4
    rw [c2] at h0
    rw [c3] at h1
    rw [c22] at h2
    rw [c3] at h3
    rw [c3] at h4
    rw [e0] at h0
    rw [e1] at h1
    rw [e2] at h2
    rw [e3] at h3
    rw [e4] at h4
    obtain ⟨k0, i0, _⟩ := DataW.trod_int Try.underlying2 (show DataW.trod enc Try.prog W 0 (fun _ => true) true n 2 [v0] = some y0 from h0)
    obtain ⟨k1, i1, _⟩ := DataW.trod_int Try.underlying3 (show DataW.trod enc Try.prog W 0 (fun _ => true) true n 3 [v1] = some y1 from h1)
    obtain ⟨k3, i3, _⟩ := DataW.trod_int Try.underlying3 (show DataW.trod enc Try.prog W 0 (fun _ => true) true n 3 [v3] = some y3 from h3)
    obtain ⟨k4, i4, _⟩ := DataW.trod_int Try.underlying3 (show DataW.trod enc Try.prog W 0 (fun _ => true) true n 3 [v4] = some y4 from h4)
    obtain ⟨A, c, l, rfl, hc, hC, hb⟩ := row_open (show DataW.trod enc Try.prog W 0 (fun _ => true) true n 22 [v2] = some y2 from h2)
    obtain rfl : v0 = .int .i64 k0 := by simpa using i0
    obtain rfl : v1 = .int .i64 k1 := by simpa using i1
    obtain rfl : v3 = .int .i64 k3 := by simpa using i3
    obtain rfl : v4 = .int .i64 k4 := by simpa using i4
    exact ⟨⟨k0, k1, l, k3, k4⟩, A, c, rfl, hc, hC, hb⟩
/-- a list of events, opened -/
theorem evs_open {H : Type} {enc : TypeId × Value → H} {W : World} {fuel : Nat} {v : Value} {x : DataW H × List MemPlace} (hf : DataW.trod enc Try.prog W 0 (fun _ => true) true fuel 25 [v] = some x) :
    ∃ (l : List S30) (A : Option Addr) (c : Nat), v = .slice A l.length c ∧ l.length ≤ c ∧ Kd.C k30 W A l.length l := by
  rcases Go.Deep.open_slice Try.underlying25 hf with ⟨hcs, _⟩ | ⟨a, len, cap, m, n, D, Pl, hcs, _, hl, hm, hmm, _, hel⟩
  · obtain rfl : v = .slice none 0 0 := by simpa using hcs
    exact ⟨[], none, 0, rfl, Nat.le_refl _, Kd.C_nil _ _⟩
  · obtain rfl : v = .slice (some a) len cap := by simpa using hcs
    have hm2 : m = cap := by rw [hmm]; rfl
    subst hm2
    obtain ⟨E, hE⟩ := Go.Deep.choose_lt (α := S30) (n := m) (p := fun i e => ∃ A c, (∀ j u, [Value.int .i64 e.f0, .int .i64 e.f1, .slice A e.f2.length c, .int .i64 e.f3, .int .i64 e.f4][j]? = some u → W.cell? (a.add (i * 5 + j)) = some u) ∧ e.f2.length ≤ c ∧ Kd.C (Kd.int .u8) W A e.f2.length e.f2) (fun i hi => by
      obtain ⟨cs', h1, h2⟩ := hel i hi
      obtain ⟨e, A, c, rfl, hc, hC, _⟩ := ev_open h2
      refine ⟨e, A, c, fun j u hj => ?_, hc, hC⟩
      rw [c30] at h1
      obtain ⟨_, _, h4⟩ := World.cells?_some h1
      have hj5 : j < 5 := by have := (List.getElem?_eq_some_iff.1 hj).1; simpa using this
      rw [← Addr.add_add, h4 j hj5]
      exact hj)
    have hlen : ((List.range len).map E).length = len := by simp
    refine ⟨(List.range len).map E, some a, m, by rw [hlen], by rw [hlen]; exact hl, ?_⟩
    rw [hlen]
    refine ⟨hlen, by unfold maxLen at hm; omega, fun _ => ⟨a, rfl, fun j p hp => ?_⟩⟩
    have hj : j < len := by have := (List.getElem?_eq_some_iff.1 hp).1; simpa using this
    obtain rfl : E j = p := by simpa [hj] using hp
    obtain ⟨A, c, h1, h2, h3⟩ := hE j (by omega)
    exact ⟨_, rfl, k30_mk W (E j) h2 h3, h1⟩
set_option maxRecDepth 100000 in
theorem lifted (os : Os) (started : os.Started) (H : Type) (enc : TypeId × Value → H) :
    ReturnsInHanded {} Try.checked os 5 .any (Rows.eventTellsSpec.pre6 enc Try.prog Try.f5 Rows.eventTellsRow.domain false) (Rows.eventTellsSpec.post enc Try.prog Try.f5 false true false false) := by
  refine returnsInHanded_of_change_sized (C := Try.checked) own started (by kernel_rfl) Try.func5
    (ChangeSpec.witness6 (enc := enc) (C := Try.checked) false ⟨#[], #[.agg #[.int .i64 0, .int .i64 0, .slice none 0 0, .int .i64 0, .int .i64 0], .slice none 0 0, .slice none 0 0, .slice none 0 0, .int .i64 0, .int .i64 0, .int .u8 0, .int .u8 0], []⟩ 8 (by kernel_rfl) (by kernel_rfl) (by kernel_rfl) (by kernel_rfl)) ?_
  intro W base args ds gs before hval0 hW hcnd hsz0 _
  have hval : ∀ (j : Nat) t v, Try.f5.params[j]? = some t → args[j]? = some v → Value.okWide Try.prog W .any base t v := hval0
  have hW' := hW
  obtain ⟨p, q, hA0, hV, rfl, hfz, hnd⟩ := hW
  have hA : DataW.TrodAll enc Try.prog W 0 (fun _ => true) true Try.f5.params.toList args.toList ds p := hA0
  rw [Try.params5] at hA hval
  obtain ⟨v0, vs0, d0, ds0, p0, q0, hargs, rfl, rfl, h0, r0⟩ := trodAll_cons hA
  obtain ⟨v1, vs1, d1, ds1, p1, q1, rfl, rfl, rfl, h1, r1⟩ := trodAll_cons r0
  obtain ⟨v2, vs2, d2, ds2, p2, q2, rfl, rfl, rfl, h2, r2⟩ := trodAll_cons r1
  obtain ⟨v3, vs3, d3, ds3, p3, q3, rfl, rfl, rfl, h3, r3⟩ := trodAll_cons r2
  obtain ⟨v4, vs4, d4, ds4, p4, q4, rfl, rfl, rfl, h4, r4⟩ := trodAll_cons r3
  obtain ⟨v5, vs5, d5, ds5, p5, q5, rfl, rfl, rfl, h5, r5⟩ := trodAll_cons r4
  obtain ⟨v6, vs6, d6, ds6, p6, q6, rfl, rfl, rfl, h6, r6⟩ := trodAll_cons r5
  obtain ⟨v7, vs7, d7, ds7, p7, q7, rfl, rfl, rfl, h7, r7⟩ := trodAll_cons r6
  obtain ⟨rfl, rfl, rfl⟩ := trodAll_nil r7
  obtain rfl : args = #[v0, v1, v2, v3, v4, v5, v6, v7] := by cases args; simp_all
  obtain ⟨rfl, rfl⟩ := trodVars_none hV
  have lt : ∀ {t : TypeId} {v : Value} {d : DataW H} {p : List MemPlace}, DataW.Trod enc Try.prog W 0 (fun _ => true) true t v d p → ∀ x ∈ p, x.block < W.heap.size := fun h => by obtain ⟨m, hm⟩ := h; exact DataW.trod_lt m _ _ _ hm
  have k0 := h0
  have k1 := h1
  have k2 := h2
  have k3 := h3
  obtain ⟨cs0, rfl, _⟩ := okWide_struct Try.underlying30 (hval 0 30 v0 rfl rfl)
  obtain ⟨e0, A0, c0, hcs0, hc0, hC0, hb0⟩ : ∃ (e : S30) (A : Option Addr) (c : Nat), cs0 = #[.int .i64 e.f0, .int .i64 e.f1, .slice A e.f2.length c, .int .i64 e.f3, .int .i64 e.f4] ∧ e.f2.length ≤ c ∧ Kd.C (Kd.int .u8) W A e.f2.length e.f2 ∧ Pure.Byt e.f2 := by
    obtain ⟨fuel, hf⟩ := h0
    obtain ⟨e, A, c, h, r⟩ := ev_open hf
    exact ⟨e, A, c, by simpa [Value.cells] using congrArg List.toArray h, r⟩
  subst hcs0
  obtain ⟨a1, len1, cap1, rfl⟩ := okWide_slice Try.underlying25 (hval 1 25 v1 rfl rfl)
  obtain ⟨l1, hl1, hc1, hC1⟩ : ∃ l : List S30, len1 = l.length ∧ l.length ≤ cap1 ∧ Kd.C k30 W a1 l.length l := by
    obtain ⟨fuel, hf⟩ := h1
    obtain ⟨l, A, c, h, h2, h3⟩ := evs_open (show DataW.trod enc Try.prog W 0 (fun _ => true) true fuel 25 [.slice a1 len1 cap1] = some _ from hf)
    simp only [Value.slice.injEq] at h
    obtain ⟨rfl, rfl, rfl⟩ := h
    exact ⟨l, rfl, h2, h3⟩
  subst hl1
  obtain ⟨a2, len2, cap2, rfl⟩ := okWide_slice Try.underlying22 (hval 2 22 v2 rfl rfl)
  obtain ⟨l2, hl2, hc2, hC2, hb2⟩ : ∃ l : List Int, len2 = l.length ∧ l.length ≤ cap2 ∧ Kd.C (Kd.int .u8) W a2 l.length l ∧ Pure.Byt l := by
    obtain ⟨fuel, hf⟩ := h2
    obtain ⟨A, c, l, h, h2, h3, h4⟩ := row_open (show DataW.trod enc Try.prog W 0 (fun _ => true) true fuel 22 [.slice a2 len2 cap2] = some _ from hf)
    simp only [Value.slice.injEq] at h
    obtain ⟨rfl, rfl, rfl⟩ := h
    exact ⟨l, rfl, h2, h3, h4⟩
  subst hl2
  obtain ⟨a3, len3, cap3, rfl⟩ := okWide_slice Try.underlying22 (hval 3 22 v3 rfl rfl)
  obtain ⟨l3, hl3, hc3, hC3, hb3⟩ : ∃ l : List Int, len3 = l.length ∧ l.length ≤ cap3 ∧ Kd.C (Kd.int .u8) W a3 l.length l ∧ Pure.Byt l := by
    obtain ⟨fuel, hf⟩ := h3
    obtain ⟨A, c, l, h, h2, h3, h4⟩ := row_open (show DataW.trod enc Try.prog W 0 (fun _ => true) true fuel 22 [.slice a3 len3 cap3] = some _ from hf)
    simp only [Value.slice.injEq] at h
    obtain ⟨rfl, rfl, rfl⟩ := h
    exact ⟨l, rfl, h2, h3, h4⟩
  subst hl3
  obtain ⟨a4, rfl, rfl, rfl, w4⟩ := open_int Try.underlying2 (hval 4 2 v4 rfl rfl) h4
  obtain ⟨a5, rfl, rfl, rfl, w5⟩ := open_int Try.underlying2 (hval 5 2 v5 rfl rfl) h5
  obtain ⟨a6, rfl, rfl, rfl, w6⟩ := open_int Try.underlying5 (hval 6 5 v6 rfl rfl) h6
  obtain ⟨a7, rfl, rfl, rfl, w7⟩ := open_int Try.underlying5 (hval 7 5 v7 rfl rfl) h7
  clear hA0 hval0 hsz0
  obtain ⟨k, hk⟩ := Pure.EventTells e0.f0 e0.f1 e0.f2 e0.f3 e0.f4 l1 l2 l3 a4 a5 a6 a7 hb0 hb2 hb3 (by have := Zig.wf_i64 w4; omega) (by have := Zig.wf_u8 w7; omega)
  refine (repriselaw23_EventTells.calls k e0.f0 e0.f1 (fun k_ => k_ < W.heap.size) A0 c0 e0.f2 e0.f3 e0.f4 (fun k_ => k_ < W.heap.size) a1 cap1 l1 a2 cap2 l2 a3 cap3 l3 a4 a5 a6 a7 true W (Kd.V_mk hc0 (Kd.C_F (Kd.heap_int .u8) hC0)) (Kd.V_mk hc1 (Kd.C_F heap30 hC1)) hC2 hc2 hC3 hc3 hk).mono fun e W' ⟨he, bel⟩ => ?_
  subst he
  exact ⟨_, rfl, _, _, _, [], _, [], hW', trodAll_mk1 (shut_bool Try.underlying4 _), (trodAll_cons_mk (Below.trod laidOut (by kernel_rfl) (of_decide_eq_true (by kernel_rfl)) k0 bel (lt k0)) (trodAll_cons_mk (Below.trod laidOut (by kernel_rfl) (of_decide_eq_true (by kernel_rfl)) k1 bel (lt k1)) (trodAll_cons_mk (Below.trod laidOut (by kernel_rfl) (of_decide_eq_true (by kernel_rfl)) k2 bel (lt k2)) (trodAll_cons_mk (Below.trod laidOut (by kernel_rfl) (of_decide_eq_true (by kernel_rfl)) k3 bel (lt k3)) (trodAll_cons_mk (shut_int Try.underlying2 w4) (trodAll_cons_mk (shut_int Try.underlying2 w5) (trodAll_cons_mk (shut_int Try.underlying5 w6) (trodAll_cons_mk (shut_int Try.underlying5 w7) trodAll_mk0)))))))), rfl, bel.frame _, fun h => by cases h⟩
theorem over : Rows.eventTellsRow.holds Try.pinned (OpenSpec.ofChange Rows.eventTellsSpec) :=
  OpenClaim.holds_of_wide 5 Try.f5 rfl rfl rfl rfl rfl rfl rfl ⟨rfl, rfl, rfl, rfl, rfl⟩ rfl rfl rfl rfl rfl (by kernel_rfl) Try.func5 (by kernel_rfl)
    (of_decide_eq_true (by kernel_rfl)) (by unfold Func.isWrapper; first | (rw [if_pos (by decide +kernel)]; kernel_rfl) | (rw [if_neg (by decide +kernel)]; exact ⟨rfl, rfl⟩))
    (fun os started H enc _ => lifted os started H enc)
theorem proved : Rows.EventTellsSaid := over
#print axioms proved
end Go.Proofs.Ytmaefdeigienjaa.eventTells
namespace Go.Proofs.Ytmaefdeigienjaa
/-- The row, under a short name, for the claim. -/
theorem eventTells_holds : Rows.EventTellsSaid := eventTells.proved
end Go.Proofs.Ytmaefdeigienjaa
