/- Lean functions for the Go functions that the law reaches, and proofs that each call comes to just what its Lean function tells; no condition. (Written by a program of this session.) -/
import Derived.Test.YtmaefdeigienjaaQEventChainx0
import Derived.Test.YtmaefdeigienjaaQEventChainx3
import Derived.Test.YtmaefdeigienjaaQEventChainx5
namespace Go.Proofs.Ytmaefdeigienjaa.QEventChain
open Go.RowKit Go.Proofs.YtmaefdeigienjaaW.PrintWords Go.Proofs.YtmaefdeigienjaaW.PrintLast Go.Proofs.YtmaefdeigienjaaW.PrintMore
attribute [local go_sem] max2_int min2_int max_two min_two max_three min_three max_four min_four   -- for this text's walks alone
set_option linter.unusedVariables false
set_option linter.unusedSimpArgs false

/-! ### repriselaw23_known: function 11 -/
def repriselaw23_known.f : Option Bool := some true
theorem repriselaw23_known.put5 : event_Put.f 30 5 7 0 [97] 0 0 = some ([2, 0, 1, 97], 0) := by decide +kernel
theorem repriselaw23_known.put8 : event_Put.f 30 8 7 0 [97] 0 0 = some ([], 24) := by decide +kernel
theorem repriselaw23_known.read5 : event_Read.f 30 5 [2, 0, 1, 97, 9] = some (7, 0, [97], 0, 0, 4, 0) := by kernel_rfl
theorem repriselaw23_known.same1 : event_Same.f 7 0 [97] 0 0 7 0 [97] 0 0 = some true := by
  unfold event_Same.f bytes_Equal.f
  simp
theorem repriselaw23_known.right1 : event_Right.f 30 7 0 [97] 0 0 = some true := by decide +kernel
theorem repriselaw23_known.until1 : event_Until.f 30 [⟨7, 0, [97], 0, 0⟩] 6 = some 0 := by decide +kernel
/-- the event of the chapter's example lies at block g, its byte behind A -/
def repriselaw23_known.EIn (W : World) (g : Nat) (A : Option Addr) (c : Nat) : Prop :=
  W.heap[g]? = some (.cells #[.int .i64 7, .int .i64 0, .slice A 1 c, .int .i64 0, .int .i64 0] 30 (0, 0)) ∧ Kd.C (Kd.int .u8) W A 1 [97] ∧ g < W.heap.size
theorem repriselaw23_known.EIn.below {W W' : World} {g : Nat} {A : Option Addr} {c : Nat} (h : repriselaw23_known.EIn W g A c) (hb : Below W.heap.size W W') : repriselaw23_known.EIn W' g A c :=
  ⟨(hb.block g h.2.2).trans h.1, Kd.C_below h.2.1 hb, Nat.lt_of_lt_of_le h.2.2 hb.size⟩
theorem repriselaw23_known.EIn.cells {W : World} {g : Nat} {A : Option Addr} {c : Nat} (h : repriselaw23_known.EIn W g A c) : W.cell? ⟨g, 0, none⟩ = some (.int .i64 7) ∧ W.cell? ⟨g, 1, none⟩ = some (.int .i64 0) ∧ W.cell? ⟨g, 2, none⟩ = some (.slice A 1 c) ∧ W.cell? ⟨g, 3, none⟩ = some (.int .i64 0) ∧ W.cell? ⟨g, 4, none⟩ = some (.int .i64 0) := by
  refine ⟨?_, ?_, ?_, ?_, ?_⟩ <;> rw [cell_of_row _ g _ _ 30 (0, 0) h.1] <;> rfl
/-- a list of that one event -/
theorem repriselaw23_known.list1 (W : World) {A : Option Addr} {c : Nat} (hC : Kd.C (Kd.int .u8) W A 1 [97]) (hc : 1 ≤ c) :
    Kd.C k30 (W.alloc (.cells #[.int .i64 7, .int .i64 0, .slice A 1 c, .int .i64 0, .int .i64 0] 30)) (some ⟨W.heap.size, 0, none⟩) 1 [⟨7, 0, [97], 0, 0⟩] := by
  refine ⟨rfl, by decide, fun _ => ⟨_, rfl, fun j p hj => ?_⟩⟩
  obtain rfl : j = 0 := by
    rcases j with _ | j
    · rfl
    · simp at hj
  simp only [List.getElem?_cons_zero, Option.some.injEq] at hj
  subst hj
  refine ⟨[.int .i64 7, .int .i64 0, .slice A 1 c, .int .i64 0, .int .i64 0], rfl, k30_mk _ ⟨7, 0, [97], 0, 0⟩ hc (Kd.C_alloc hC _), fun i u hu => ?_⟩
  rw [show (⟨W.heap.size, 0, none⟩ : Addr).add (0 * k30.sz + i) = ⟨W.heap.size, i, none⟩ from by unfold Addr.add; split <;> simp_all]
  rw [cell_of_row _ W.heap.size i _ 30 (0, 0) (heap_alloc_last W _)]
  simpa using hu
theorem repriselaw23_known.lit1 (w : World) : Kd.C (Kd.int .u8) (w.alloc (.cells #[.int .u8 97] 5 (1, 2))) (some ⟨w.heap.size, 0, none⟩) 1 [97] := by
  have h : ReadsOf (Value.int .u8) (0 : Int) (w.alloc (.cells #[.int .u8 97] 5 (1, 2))) (some ⟨w.heap.size, 0, none⟩) 1 [97] := by
    refine ⟨rfl, by decide, fun _ => ⟨_, rfl, fun j hj => ?_⟩⟩
    rw [show (⟨w.heap.size, 0, none⟩ : Addr).add j = ⟨w.heap.size, j, none⟩ from by unfold Addr.add; split <;> simp_all]
    rw [cell_of_row _ w.heap.size j _ 5 (1, 2) (heap_alloc_last w _)]
    obtain rfl : j = 0 := by omega
    rfl
  exact Kd.C_of_reads (h1 := fun _ => rfl) h
set_option maxHeartbeats 4000000 in
set_option maxRecDepth 1000000 in
theorem repriselaw23_known.calls (r : Bool) (w : World) (h : repriselaw23_known.f = some r) :
    Calls Try.prog 11 #[] w fun e w' => e = .returned (.bool r) ∧ Below w.heap.size w w' := by
  obtain rfl := Option.some.inj h
  have hu30 := Try.underlying30
  have kc := fun (w : World) (C : Array Value) (n c : Nat) => Lib.run_convert_bytes_const (P := Try.prog) w 22 5 C n c Try.underlying22 Try.underlying5
  go_enter Try.func11, Try.ntmps11
  go_upto_region 2 with fail
  have HE0 : repriselaw23_known.EIn ((w.alloc (.cells #[.int .u8 97] 5 (1, 2))).alloc (.cells #[.int .i64 7, .int .i64 0, .slice (some ⟨w.heap.size, 0, none⟩) 1 1, .int .i64 0, .int .i64 0] 30)) (w.heap.size + 1) (some ⟨w.heap.size, 0, none⟩) 1 := by
    refine ⟨?_, ?_, ?_⟩
    · have := heap_alloc_last (w.alloc (.cells #[.int .u8 97] 5 (1, 2))) (.cells #[.int .i64 7, .int .i64 0, .slice (some ⟨w.heap.size, 0, none⟩) 1 1, .int .i64 0, .int .i64 0] 30)
      simpa using this
    · exact Kd.C_alloc (repriselaw23_known.lit1 w) _
    · simp
  have HB0 : Below w.heap.size w ((w.alloc (.cells #[.int .u8 97] 5 (1, 2))).alloc (.cells #[.int .i64 7, .int .i64 0, .slice (some ⟨w.heap.size, 0, none⟩) 1 1, .int .i64 0, .int .i64 0] 30)) := ((Below.refl _ _).alloc (Nat.le_refl _) _).alloc (by simp) _
  have HE := Aside0.mk HE0
  have HB := Aside0.mk HB0
  clear HE0 HB0 kc
  generalize (w.alloc (.cells #[.int .u8 97] 5 (1, 2))).alloc (.cells #[.int .i64 7, .int .i64 0, .slice (some ⟨w.heap.size, 0, none⟩) 1 1, .int .i64 0, .int .i64 0] 30) = W at *
  generalize w.heap.size + 1 = g at *
  obtain ⟨gb, hgb⟩ : ∃ gb : Nat, gb = w.heap.size := ⟨_, rfl⟩
  rw [← hgb] at HE
  have Hgb := Aside0.mk hgb
  clear hgb
  obtain ⟨c0, c1, c2, c3, c4⟩ := HE.out.cells
  go_wp2_with fail
  refine (event_Put.calls 30 5 7 0 _ _ [97] 0 0 [2, 0, 1, 97] 0 _ HE.out.2.1 (by decide) repriselaw23_known.put5).mono ?_
  rintro e w1 ⟨v0, rfl, ho, hb⟩
  obtain ⟨Ab, cb, eb⟩ := Kd.R_slice ho
  subst eb
  have n0_ := Aside0.mk (HE.out.below hb)
  have n1_ := Aside0.mk (HB.out.trans (hb.mono HB.out.size))
  have OB := Aside0.mk (Kd.R_reads' ho).2.2
  clear HE HB ho hb c0 c1 c2 c3 c4
  have HE := n0_
  have HB := n1_
  clear n0_ n1_
  have B1 := Aside0.mk (Below.refl w1.heap.size w1)
  go_upto_region 4 with (first | ((with_reducible refine gate_builtin (b := .append) (xs := #[.const (.slice none 0 0), .tmp 18]) rfl ?_); at_builtin; refine Kd.R_append_rows (Kd.int .u8) (w0 := w1) w1.heap.size rfl (.const (.slice none 0 0)) (.tmp 18) 22 5 (.int .u8 0) 1 rfl Try.underlying22 info5 rfl (by decide) (by omega) (.slice none 0 0) ([] : List Int) [2, 0, 1, 97] _ _ _ (fun _ => True) (fun _ => False) rfl rfl ?aO ?aR (fun _ _ h => h) (fun _ h => h.elim) ?aF ?aB ?aS ?aL ?_; (case aR => exact OB.out); (case aB => exact B1.out); (case aF => exact (fun _ _ => trivial)); (case aO => exact (Kd.R_nil _ _ _ _ _)); (case aS => exact B1.out.size); (case aL => decide); intro v2 w2 ho2 hb2 _ _; have O2 := Aside0.mk ho2; clear B1; have B1 := Aside0.mk hb2; clear ho2 hb2) | ((with_reducible refine gate_builtin (b := .append) (xs := #[.tmp 19, .tmp 20]) rfl ?_); at_builtin; refine Kd.R_append (Kd.int .u8) (w0 := w1) w1.heap.size rfl (.tmp 19) (.tmp 20) 22 5 (.int .u8 0) 1 rfl Try.underlying22 info5 rfl (by decide) (by omega) v2 [2, 0, 1, 97] 9 [.int .u8 9] (fun _ => True) (fun _ => False) rfl rfl ?bP (fun _ hk => hk.elim) ?bF ?bO ?bB ?bS ?bL ?_; (case bP => exact rfl); (case bB => exact B1.out); (case bF => exact (fun _ _ => trivial)); (case bO => exact O2.out); (case bS => exact B1.out.size); (case bL => decide); intro v3 w3 ho3 hb3 _ _; obtain ⟨A3, c3', e3⟩ := Kd.R_slice ho3; subst e3; have O3 := Aside0.mk (Kd.R_reads' ho3).2.2; have L3 := Aside0.mk (Kd.R_reads' ho3).2.1; clear B1 O2; have B1 := Aside0.mk hb3; clear ho3 hb3) | (go_at_call 14; refine (event_Read.calls 30 5 A3 c3' [2, 0, 1, 97, 9] 7 0 [97] 0 0 4 0 _ O3.out L3.out repriselaw23_known.read5).mono ?_; rintro e w4 ⟨v4, rfl, ho4, hb4⟩; obtain ⟨Ax, cx, ex⟩ := Kd.R_slice ho4; subst ex; have OX := Aside0.mk (Kd.R_reads' ho4).2.2; have LX := Aside0.mk (Kd.R_reads' ho4).2.1; have B2 := Aside0.mk (B1.out.trans (hb4.mono B1.out.size)); clear B1 ho4 hb4 O3 L3))
  have HE4 : repriselaw23_known.EIn (w4.alloc (.cells #[.int .i64 7, .int .i64 0, .slice Ax 1 cx, .int .i64 0, .int .i64 0] 30)) g (some ⟨gb, 0, none⟩) 1 := (HE.out.below B2.out).below (below_alloc (Below.refl _ _) _)
  have HB4 : Below w.heap.size w (w4.alloc (.cells #[.int .i64 7, .int .i64 0, .slice Ax 1 cx, .int .i64 0, .int .i64 0] 30)) := (HB.out.trans (B2.out.mono HB.out.size)).alloc (Nat.le_trans HB.out.size B2.out.size) _
  have HX4 : repriselaw23_known.EIn (w4.alloc (.cells #[.int .i64 7, .int .i64 0, .slice Ax 1 cx, .int .i64 0, .int .i64 0] 30)) w4.heap.size Ax cx := ⟨heap_alloc_last w4 _, Kd.C_alloc OX.out _, by simp⟩
  have OB4 : Kd.C (Kd.int .u8) (w4.alloc (.cells #[.int .i64 7, .int .i64 0, .slice Ax 1 cx, .int .i64 0, .int .i64 0] 30)) Ab 4 [2, 0, 1, 97] := Kd.C_alloc (Kd.C_below OB.out B2.out) _
  clear HE HB OB OX B2
  have HE := Aside0.mk HE4
  have HB := Aside0.mk HB4
  have HX := Aside0.mk HX4
  have OB := Aside0.mk OB4
  have LX1 : Aside0 (1 ≤ cx) := ⟨LX.out⟩
  clear HE4 HB4 HX4 OB4 LX
  generalize w4.heap.size = gx at *
  generalize w4.alloc (.cells #[.int .i64 7, .int .i64 0, .slice Ax 1 cx, .int .i64 0, .int .i64 0] 30) = W4 at *
  clear w4
  obtain ⟨c0, c1, c2, c3, c4⟩ := HE.out.cells
  go_wp2_with fail
  refine (event_Put.calls 30 8 7 0 _ _ [97] 0 0 [] 24 _ HE.out.2.1 (by decide) repriselaw23_known.put8).mono ?_
  rintro e w5 ⟨v5, rfl, ho, hb⟩
  have n0_ := Aside0.mk (HE.out.below hb)
  have n1_ := Aside0.mk (HB.out.trans (hb.mono HB.out.size))
  have n2_ := Aside0.mk (HX.out.below hb)
  have hcv : (convert 22 9 (.slice Ab 4 cb)).run Try.prog w5 = .ok (.string ⟨#[2, 0, 1, 97]⟩) w5 := Kd.C_string (P := Try.prog) (c := cb) Try.underlying22 Try.underlying5 Try.underlying9 (Kd.C_below OB.out hb)
  clear HE HB HX OB ho hb c0 c1 c2 c3 c4
  have HE := n0_
  have HB := n1_
  have HX := n2_
  clear n0_ n1_ n2_
  obtain ⟨c0, c1, c2, c3, c4⟩ := HE.out.cells
  obtain ⟨d0, d1, d2, d3, d4⟩ := HX.out.cells
  go_wp2_with fail
  refine (event_Same.calls 7 0 _ _ [97] 0 0 7 0 _ _ [97] 0 0 true _ HX.out.2.1 LX1.out HE.out.2.1 (by decide) repriselaw23_known.same1).mono ?_
  rintro e w6 ⟨rfl, hb⟩
  have n0_ := Aside0.mk (HE.out.below hb)
  have n1_ := Aside0.mk (HB.out.trans (hb.mono HB.out.size))
  clear HE HB HX hb hcv c0 c1 c2 c3 c4 d0 d1 d2 d3 d4
  have HE := n0_
  have HB := n1_
  clear n0_ n1_
  obtain ⟨c0, c1, c2, c3, c4⟩ := HE.out.cells
  go_wp2_with fail
  refine (event_Right.calls 30 7 0 _ _ [97] 0 0 true _ HE.out.2.1 (by decide) repriselaw23_known.right1).mono ?_
  rintro e w7 ⟨rfl, hb⟩
  have n0_ := Aside0.mk (HE.out.below hb)
  have n1_ := Aside0.mk (HB.out.trans (hb.mono HB.out.size))
  clear HE HB hb c0 c1 c2 c3 c4
  have HE := n0_
  have HB := n1_
  clear n0_ n1_
  obtain ⟨c0, c1, c2, c3, c4⟩ := HE.out.cells
  go_wp2_with fail
  refine (event_Until.calls 30 _ 1 [⟨7, 0, [97], 0, 0⟩] 6 0 _ (repriselaw23_known.list1 w7 HE.out.2.1 (by decide)) (by decide) repriselaw23_known.until1).mono ?_
  rintro e w8 ⟨rfl, hb⟩
  have n1_ := Aside0.mk (HB.out.trans (((below_alloc (Below.refl _ _) _).trans (hb.mono (by simp))).mono HB.out.size))
  clear HE HB hb c0 c1 c2 c3 c4
  go_wp2
  go_ret
  exact ⟨by first | rfl | (simp; done), n1_.out⟩

/-! ### repriseref17_binds: function 59 -/
def repriseref17_binds.l0 : Nat → List ByteArray → List (S91) → Int → Option ((List (S91)))
  | 0, _, _, _ => none
  | k + 1, x0, x3, x4 => if (wrap64 (x4 + 1)) < (x0.length : Int) then (if 0 ≤ x4 then (if x4 < (x0.length : Int) then (if (rdOf ByteArray.empty x0 x4).size ≤ 9223372036854775807 then (if 0 ≤ (wrap64 (x4 + 1)) then (if x3.length < 3518437208883 then (repriseref17_binds.l0 k x0 (x3 ++ [(⟨(bytesOf (rdOf ByteArray.empty x0 x4)), rdOf ByteArray.empty x0 (wrap64 (x4 + 1))⟩ : S91)]) (wrap64 (x4 + 2))) else (none)) else (none)) else (none)) else (none)) else (none)) else (some x3)
def repriseref17_binds.f (k : Nat) (l0 : List ByteArray) : Option ((List (S91))) := repriseref17_binds.l0 k l0 ([] : List (S91)) 0
theorem repriseref17_binds.mono_l : ∀ k, (∀ y0 y1 y2, LeO (repriseref17_binds.l0 k y0 y1 y2) (repriseref17_binds.l0 (k + 1) y0 y1 y2))
  | 0 => fun _ _ _ r h => by simp [repriseref17_binds.l0] at h
  | k + 1 => by
    have ih0 := repriseref17_binds.mono_l k
    · intro y0 y1 y2
      unfold repriseref17_binds.l0
      repeat' first
      | (with_reducible exact ih0 _ _ _)
      | (with_reducible exact LeO.refl _)
      | (with_reducible exact LeO.none _)
      | (with_reducible refine LeO.ite ?_ ?_)
      | (with_reducible refine LeO.bind ?_ (fun _ => ?_))
      | exact ih0 _ _ _
      | exact LeO.none _
      | refine LeO.ite ?_ ?_
      | refine LeO.bind ?_ (fun _ => ?_)
theorem repriseref17_binds.mono : ∀ a0 k, LeO (repriseref17_binds.f k a0) (repriseref17_binds.f (k + 1) a0) := by
  intro a0 k
  have ih0 := repriseref17_binds.mono_l k
  unfold repriseref17_binds.f
  repeat' first
      | (with_reducible exact ih0 _ _ _)
      | (with_reducible exact LeO.refl _)
      | (with_reducible exact LeO.none _)
      | (with_reducible refine LeO.ite ?_ ?_)
      | (with_reducible refine LeO.bind ?_ (fun _ => ?_))
      | exact ih0 _ _ _
      | exact LeO.none _
      | refine LeO.ite ?_ ?_
      | refine LeO.bind ?_ (fun _ => ?_)
def repriseref17_binds.T5 : Bool × List (List Nat × List Nat) := (true, [([], []), ([], []), ([], []), ([1, 2], [1, 2]), ([3], [3]), ([4], [4]), ([], []), ([], []), ([7], [7]), ([6, 8], [6, 8]), ([9], [9]), ([5, 10], [5, 10]), ([11], [11]), ([0, 12], [0, 12]), ([13, 13, 0, 1, 2, 3, 4, 5, 6, 7, 8, 9, 10, 11, 12, 13], [0, 13])])
def repriseref17_binds.B5 : List Nat := [0, 0, 0, 6, 14, 30, 0, 0, 128, 448, 960, 2046, 4094, 8191, 16383]
theorem repriseref17_binds.tab5 : rtab .any (opsOf Try.f59 5) = repriseref17_binds.T5 := by kernel_rfl
theorem repriseref17_binds.bits5 : waitsOk repriseref17_binds.T5.2 repriseref17_binds.B5 = true := by kernel_rfl
set_option maxHeartbeats 8000000 in
set_option maxRecDepth 100000 in
theorem repriseref17_binds.calls (k : Nat) (A0 : Option Addr) (c0 : Nat) (l0 : List ByteArray) (r : List (S91)) (w : World) (hr0 : Kd.C Kd.string w A0 l0.length l0) (hc0 : l0.length ≤ c0) (h : repriseref17_binds.f k l0 = some r) :
    Calls Try.prog 59 #[.slice A0 l0.length c0] w fun e w' => ∃ v0_ : Value, e = .returned (v0_) ∧ Kd.N k91 91 w' w.heap.size (fun k_ => (w.heap.size ≤ k_)) v0_ r ∧ Below w.heap.size w w' := by
  have hu91 := Try.underlying91
  have HR0 := Aside0.mk hr0
  have HC0 := Aside0.mk hc0
  clear hr0 hc0
  have HB := Aside0.mk (Below.refl w.heap.size w)
  have H : (repriseref17_binds.l0 k l0 ([] : List (S91)) 0) = some r := h
  clear h
  have H' := Aside0.mk H
  clear H
  go_enter Try.func59, Try.ntmps59
  go_wp2
  go_loopg [3, 4] k (fun kq v3 v4 w' => ∃ (x3_1 : List (S91)) (x4_1 : Int), v4 = .int .i64 x4_1 ∧ Aside0 (repriseref17_binds.l0 kq l0 x3_1 x4_1 = some r) ∧ Aside0 (kq ≤ k) ∧ Aside0 (Kd.N k91 91 w' w.heap.size (fun k_ => (w.heap.size ≤ k_)) v3 x3_1) ∧ Aside0 (Below w.heap.size w w'))
  case atStart => exact ⟨(([] : List (S91))), (0), (by first | rfl | (simp; done) | (simp [*]; done)), H', ⟨Nat.le_refl _⟩, ⟨by first | exact Kd.S_nil _ _ _ _ _ | exact Kd.N_nil _ _ _ _ _ | exact Kd.V_nil _ _ _ _ _ | exact Kd.Q_nil _ _ _ _ _ | exact Kd.R_nil _ _ _ _ _⟩, ⟨by repeat (first | (with_reducible first | exact HB.out | apply below_alloc | apply pw_below_drewN | apply below_drew1) | exact HB.out)⟩⟩
  case round =>
    clear H'
    obtain ⟨x3_1, x4_1, rfl, HA, HK1, HO_3, HB⟩ := hrel
    cases gk with
    | zero => exact absurd HA.out (by simp [repriseref17_binds.l0])
    | succ k1 =>
      have H := HA.out
      clear HA
      simp only [repriseref17_binds.l0] at H
      by_cases c2 : (wrap64 (x4_1 + 1)) < (l0.length : Int)
      · rw [if_pos c2] at H
        have c2b0 : decide ((wrap64 (x4_1 + 1)) < (l0.length : Int)) = true := decide_eq_true c2
        clear c2
        by_cases c3 : 0 ≤ x4_1
        · rw [if_pos c3] at H
          have c3b0 : decide (0 ≤ x4_1) = true := decide_eq_true c3
          clear c3
          by_cases c4 : x4_1 < (l0.length : Int)
          · rw [if_pos c4] at H
            have c4b0 : decide (x4_1 < (l0.length : Int)) = true := decide_eq_true c4
            clear c4
            by_cases c5 : (rdOf ByteArray.empty l0 x4_1).size ≤ 9223372036854775807
            · rw [if_pos c5] at H
              have c5b0 := eq_true c5
              have c5b1 : decide ((rdOf ByteArray.empty l0 x4_1).size ≤ 9223372036854775807) = true := decide_eq_true c5
              try have c5b2 : (9223372036854775807 < (rdOf ByteArray.empty l0 x4_1).size) = False := eq_false (Nat.not_lt.2 c5)
              clear c5
              obtain ⟨y195, hy195⟩ : ∃ y_ : List Int, y_ = (bytesOf (rdOf ByteArray.empty l0 x4_1)) := ⟨_, rfl⟩
              replace H : (if 0 ≤ (wrap64 (x4_1 + 1)) then (if x3_1.length < 3518437208883 then (repriseref17_binds.l0 k1 l0 (x3_1 ++ [(⟨y195, rdOf ByteArray.empty l0 (wrap64 (x4_1 + 1))⟩ : S91)]) (wrap64 (x4_1 + 2))) else (none)) else (none)) = some r := by first | (rw [hy195]; with_reducible exact H) | (have H2_ := (Option.bind_some _ _).symm.trans H; rw [hy195]; with_reducible exact H2_) | (have H2_ := (Option.bind_some _ _).symm.trans H; with_reducible exact H2_) | with_reducible exact H | (rw [hy195]; exact H) | exact H
              have Ny195 := Aside0.mk hy195
              clear hy195
              obtain ⟨ji6, hji6⟩ : ∃ j_ : Int, (wrap64 (x4_1 + 1)) = j_ := ⟨_, rfl⟩
              replace H : (if 0 ≤ (ji6) then (if x3_1.length < 3518437208883 then (repriseref17_binds.l0 k1 l0 (x3_1 ++ [(⟨y195, rdOf ByteArray.empty l0 (ji6)⟩ : S91)]) (wrap64 (x4_1 + 2))) else (none)) else (none)) = some r := by first | (rw [hji6] at H; exact H) | (simp only [hji6] at H ⊢; exact H)
              (try rw [hji6] at c2b0)
              have hji6w : (IntKind.i64.wrap (x4_1 + 1)) = ji6 := (i64_w _).trans hji6
              by_cases c7 : 0 ≤ (ji6)
              · rw [if_pos c7] at H
                have c7b0 : decide (0 ≤ (ji6)) = true := decide_eq_true c7
                clear c7
                by_cases c8 : x3_1.length < 3518437208883
                · rw [if_pos c8] at H
                  have LMc8 := Aside0.mk c8
                  clear c8
                  obtain ⟨y199, hy199⟩ : ∃ y_ : List (S91), y_ = (x3_1 ++ [(⟨y195, rdOf ByteArray.empty l0 (ji6)⟩ : S91)]) := ⟨_, rfl⟩
                  replace H : (repriseref17_binds.l0 k1 l0 y199 (wrap64 (x4_1 + 2))) = some r := by first | (rw [hy199]; with_reducible exact H) | (have H2_ := (Option.bind_some _ _).symm.trans H; rw [hy199]; with_reducible exact H2_) | (have H2_ := (Option.bind_some _ _).symm.trans H; with_reducible exact H2_) | with_reducible exact H | (rw [hy199]; exact H) | exact H
                  have Ny199 := Aside0.mk hy199
                  clear hy199
                  have H' := Aside0.mk H
                  clear H
                  try go_wp2
                  have n0_ := Aside0.mk (Kd.N_drew HO_3.out)
                  have n1_ := Aside0.mk (below_drew1 HB.out)
                  clear HO_3
                  clear HB
                  have HO_3 := n0_
                  have HB := n1_
                  clear n0_ n1_
                  have p194 : 0 ≤ (x4_1 : Int) := of_decide_eq_true (by first | (with_reducible assumption) | assumption)
                  have q194 : x4_1 < (l0.length : Int) := of_decide_eq_true (by first | (with_reducible assumption) | assumption)
                  obtain ⟨ad194, e194, hx194_0⟩ := Kd.at_string HR0.out x4_1 p194 q194
                  have hw194_0 := hx194_0
                  cases e194
                  replace hx194_0 := (HB.out.cell (World.block_lt_of_cell? w _ hx194_0)).trans hx194_0
                  replace p194 := eq_true p194
                  replace q194 := eq_true q194
                  have p198 : 0 ≤ ((ji6) : Int) := of_decide_eq_true (by first | (with_reducible assumption) | assumption)
                  have q198 : (ji6) < (l0.length : Int) := of_decide_eq_true (by first | (with_reducible assumption) | assumption)
                  obtain ⟨ad198, e198, hx198_0⟩ := Kd.at_string HR0.out (ji6) p198 q198
                  have hw198_0 := hx198_0
                  obtain rfl : ad194 = ad198 := (by injection e198)
                  replace hx198_0 := (HB.out.cell (World.block_lt_of_cell? w _ hx198_0)).trans hx198_0
                  replace p198 := eq_true p198
                  replace q198 := eq_true q198
                  refine start_ (n := 15) (S := fun w' => w'.cell? (ad194.add (x4_1).toNat) = some (.string (rdOf ByteArray.empty l0 x4_1)) ∧ w'.cell? (ad194.add ((ji6)).toNat) = some (.string (rdOf ByteArray.empty l0 (ji6)))) (ds := []) #[false, false, false, false, false, false, false, false, false, false, false, false, false, false, false] (by kernel_rfl) rfl rfl ⟨((HB.out.cell (World.block_lt_of_cell? w _ hw194_0)).trans hw194_0), ((HB.out.cell (World.block_lt_of_cell? w _ hw198_0)).trans hw198_0)⟩ (fun hHeld => ?_); refine with_tabW repriseref17_binds.tab5 repriseref17_binds.bits5 (fun HT_ HW_ => ?_)
                  generalize wr.drew = w9 at HO_3 HB hx194_0 hx198_0 hHeld ⊢
                  refine pure_ (i := 0) (N := some 12) (v := ?_) (a' := ?_) #[true, false, false, false, false, false, false, false, false, false, false, false, false, false, false] rfl rfl (any_of HT_.out (by kernel_rfl)) (fun _ _ _ h => h) (Or.inl ⟨by rfl, ?_⟩) ?_ ?_
                  rotate_left
                  · intro w'
                    go_simp
                    with_reducible rfl
                  rotate_left
                  · simp only [Act.put, List.setIfInBounds_toArray, List.set_cons_zero, List.set_cons_succ, i64_w, i32_w]
                    rfl
                  refine pure_ (i := 1) (N := some 13) (v := ?_) (a' := ?_) #[true, true, false, false, false, false, false, false, false, false, false, false, false, false, false] rfl rfl (any_of HT_.out (by kernel_rfl)) (fun _ _ _ h => h) (Or.inl ⟨by rfl, ?_⟩) ?_ ?_
                  rotate_left
                  · intro w'
                    go_simp
                    with_reducible rfl
                  rotate_left
                  · simp only [Act.put, List.setIfInBounds_toArray, List.set_cons_zero, List.set_cons_succ, i64_w, i32_w]
                    rfl
                  refine pure_ (i := 2) (N := some 14) (v := ?_) (a' := ?_) #[true, true, true, false, false, false, false, false, false, false, false, false, false, false, false] rfl rfl (any_of HT_.out (by kernel_rfl)) (fun _ _ _ h => h) (Or.inl ⟨by rfl, ?_⟩) ?_ ?_
                  rotate_left
                  · intro w'
                    go_simp
                    with_reducible rfl
                  rotate_left
                  · simp only [Act.put, List.setIfInBounds_toArray, List.set_cons_zero, List.set_cons_succ, i64_w, i32_w]
                    rfl
                  refine pure_ (i := 3) (N := some 15) (v := ?_) (a' := ?_) #[true, true, true, true, false, false, false, false, false, false, false, false, false, false, false] rfl rfl (any_of HT_.out (by kernel_rfl)) (fun _ _ _ h => h) (Or.inl ⟨by rfl, ?_⟩) ?_ ?_
                  rotate_left
                  · intro w'
                    go_simp
                    with_reducible rfl
                  rotate_left
                  · simp only [Act.put, List.setIfInBounds_toArray, List.set_cons_zero, List.set_cons_succ, i64_w, i32_w]
                    rfl
                  refine pure_ (i := 6) (N := some 18) (v := ?_) (a' := ?_) #[true, true, true, true, false, false, true, false, false, false, false, false, false, false, false] rfl rfl (any_of HT_.out (by kernel_rfl)) (fun _ _ _ h => h) (Or.inl ⟨by rfl, ?_⟩) ?_ ?_
                  rotate_left
                  · intro w'
                    go_simp
                    with_reducible rfl
                  rotate_left
                  · simp only [Act.put, List.setIfInBounds_toArray, List.set_cons_zero, List.set_cons_succ, i64_w, i32_w]
                    rfl
                  refine pure_ (i := 7) (N := some 19) (v := ?_) (a' := ?_) #[true, true, true, true, false, false, true, true, false, false, false, false, false, false, false] rfl rfl (any_of HT_.out (by kernel_rfl)) (fun _ _ _ h => h) (Or.inl ⟨by rfl, ?_⟩) ?_ ?_
                  rotate_left
                  · intro w'
                    go_simp
                    with_reducible rfl
                  rotate_left
                  · simp only [Act.put, List.setIfInBounds_toArray, List.set_cons_zero, List.set_cons_succ, i64_w, i32_w]
                    rfl
                  refine pure_ (i := 8) (N := some 20) (v := ?_) (a' := ?_) #[true, true, true, true, false, false, true, true, true, false, false, false, false, false, false] rfl rfl (any_of HT_.out (by kernel_rfl)) (fun _ _ _ h => h) (Or.inl ⟨by rfl, ?_⟩) ?_ ?_
                  rotate_left
                  · intro w'
                    go_simp
                    with_reducible rfl
                  rotate_left
                  · simp only [Act.put, List.setIfInBounds_toArray, List.set_cons_zero, List.set_cons_succ, i64_w, i32_w]
                    rfl
                  refine pure_ (i := 9) (N := some 21) (v := ?_) (a' := ?_) #[true, true, true, true, false, false, true, true, true, true, false, false, false, false, false] rfl rfl (any_of HT_.out (by kernel_rfl)) (fun _ _ _ h => h) (Or.inl ⟨by rfl, ?_⟩) ?_ ?_
                  rotate_left
                  · intro w'
                    go_simp
                    with_reducible rfl
                  rotate_left
                  · simp only [Act.put, List.setIfInBounds_toArray, List.set_cons_zero, List.set_cons_succ, i64_w, i32_w]
                    rfl
                  refine take_ (i := 4) (N := some 16) (v := ?_) (a' := ?_) #[true, true, true, true, true, false, true, true, true, true, false, false, false, false, false] rfl rfl (take_ofW HT_.out HW_.out (by kernel_rfl)) (fun _ _ _ h => h) (Or.inl ⟨by rfl, ?_⟩) hHeld ?_ ?_
                  rotate_left
                  · rintro w' ⟨s0, s1⟩
                    go_simp
                    with_reducible rfl
                  rotate_left
                  · simp only [Act.put, List.setIfInBounds_toArray, List.set_cons_zero, List.set_cons_succ, i64_w, i32_w]
                    rfl
                  refine take_ (i := 10) (N := some 22) (v := ?_) (a' := ?_) #[true, true, true, true, true, false, true, true, true, true, true, false, false, false, false] rfl rfl (take_ofW HT_.out HW_.out (by kernel_rfl)) (fun _ _ _ h => h) (Or.inl ⟨by rfl, ?_⟩) hHeld ?_ ?_
                  rotate_left
                  · rintro w' ⟨s0, s1⟩
                    go_simp
                    with_reducible rfl
                  rotate_left
                  · simp only [Act.put, List.setIfInBounds_toArray, List.set_cons_zero, List.set_cons_succ, i64_w, i32_w]
                    rfl
                  refine one_ (i := 5) (N := some 17) #[true, true, true, true, true, true, true, true, true, true, true, false, false, false, false] rfl rfl (one_of HT_.out (by kernel_rfl)) (by decide) (fun K hK => ?_)
                  refine Kd.V_conv_step _ 5 (by rfl) (N := 17) rfl 9 22 (.tmp 16) (rdOf ByteArray.empty l0 x4_1) rfl rfl Try.underlying9 Try.underlying22 Try.underlying5 (of_decide_eq_true (by first | (with_reducible assumption) | assumption)) (Below.refl _ _) (Nat.le_refl _) ?_
                  intro v196 w10 ho11 hb hg_ hnew_
                  clear hg_ hnew_
                  (first | rw [← Ny195.out] at ho11 | (simp only [Int.reduceToNat] at ho11; rw [← Ny195.out] at ho11))
                  have n0_ := Aside0.mk (Kd.N_below (by (with_reducible repeat (first | apply Kd.N_alloc | apply Kd.N_drewN | apply Kd.N_drew)); exact HO_3.out) hb)
                  have n1_ := Aside0.mk (Kd.V_lower (Kd.V_mono (ok' := fun k_ => (w.heap.size ≤ k_) ∧ some k_ ≠ (u3 : Value).ownBlock) ho11 (fun k_ hk_ => ⟨(Nat.le_trans (below_size (by repeat (first | (with_reducible first | exact HB.out | apply below_alloc | apply pw_below_drewN | apply below_drew1) | exact HB.out))) hk_), (Kd.fresh' (Kd.N_lt (by (with_reducible repeat (first | apply Kd.N_alloc | apply Kd.N_drewN | apply Kd.N_drew)); exact HO_3.out)) k_ hk_)⟩)) (below_size (by repeat (first | (with_reducible first | exact HB.out | apply below_alloc | apply pw_below_drewN | apply below_drew1) | exact HB.out))))
                  have n2_ := Aside0.mk (below_step (by repeat (first | (with_reducible first | exact HB.out | apply below_alloc | apply pw_below_drewN | apply below_drew1) | exact HB.out)) hb)
                  clear HO_3
                  clear HB
                  have HO_3 := n0_
                  have HO197 := n1_
                  have HB := n2_
                  clear n0_ n1_ n2_
                  clear hb ho11
                  obtain ⟨Ao12, co12, eo12⟩ := Kd.V_slice HO197.out
                  (first | subst eo12 | (injection eo12 with f1_ f2_ f3_; have f4_ := f1_.symm; have f5_ := f3_.symm; clear f1_ f2_ f3_; subst f4_; subst f5_))
                  refine hK.out _ _ ⟨((HB.out.cell (World.block_lt_of_cell? w _ hw194_0)).trans hw194_0), ((HB.out.cell (World.block_lt_of_cell? w _ hw198_0)).trans hw198_0)⟩ (fun hHeld => ?_)
                  clear hK K
                  refine norm_ (a' := ?_) ?_ ?_
                  rotate_left
                  · show Act.put _ (some 17) _ = _
                    simp only [Act.put, List.setIfInBounds_toArray, List.set_cons_zero, List.set_cons_succ, i64_w, i32_w]
                    rfl
                  refine pure_ (i := 11) (N := some 23) (v := ?_) (a' := ?_) #[true, true, true, true, true, true, true, true, true, true, true, true, false, false, false] rfl rfl (any_of HT_.out (by kernel_rfl)) (fun _ _ _ h => h) (Or.inl ⟨by rfl, ?_⟩) ?_ ?_
                  rotate_left
                  · intro w'
                    go_simp
                    with_reducible rfl
                  rotate_left
                  · simp only [Act.put, List.setIfInBounds_toArray, List.set_cons_zero, List.set_cons_succ, i64_w, i32_w]
                    rfl
                  refine one_ (i := 12) (N := some 24) #[true, true, true, true, true, true, true, true, true, true, true, true, true, false, false] rfl rfl (one_of HT_.out (by kernel_rfl)) (by decide) (fun K hK => ?_)
                  refine value_ (w1 := ?_) (v := ?_) (by rfl) rfl ?_ ?_
                  rotate_left 2
                  · go_simp
                    constructor
                    · rfl
                    · rfl
                  refine hK.out _ _ ⟨(World.cell?_alloc_lt _ _ _ (World.block_lt_of_cell? _ _ (((HB.out.cell (World.block_lt_of_cell? w _ hw194_0)).trans hw194_0)))).trans (((HB.out.cell (World.block_lt_of_cell? w _ hw194_0)).trans hw194_0)), (World.cell?_alloc_lt _ _ _ (World.block_lt_of_cell? _ _ (((HB.out.cell (World.block_lt_of_cell? w _ hw198_0)).trans hw198_0)))).trans (((HB.out.cell (World.block_lt_of_cell? w _ hw198_0)).trans hw198_0))⟩ (fun hHeld => ?_)
                  clear hK K
                  refine norm_ (a' := ?_) ?_ ?_
                  rotate_left
                  · show Act.put _ (some 24) _ = _
                    simp only [Act.put, List.setIfInBounds_toArray, List.set_cons_zero, List.set_cons_succ, i64_w, i32_w]
                    rfl
                  refine one_ (i := 13) (N := some 25) #[true, true, true, true, true, true, true, true, true, true, true, true, true, true, false] rfl rfl (one_of HT_.out (by kernel_rfl)) (by decide) (fun K hK => ?_)
                  refine Kd.N_append_step k91 (w0 := w) w.heap.size (by rfl) (.tmp 12) (.tmp 24) 88 91 (.agg #[(.slice none 0 0), (.string ⟨#[]⟩)]) 40 rfl Try.underlying88 info91 rfl (by decide) (by omega) u3 x3_1 (⟨y195, rdOf ByteArray.empty l0 (ji6)⟩ : S91) [.slice Ao12 y195.length co12, .string (rdOf ByteArray.empty l0 (ji6))] (fun k_ => (w.heap.size ≤ k_)) (fun k_ => ((fun k_ => (w.heap.size ≤ k_))) k_ ∧ some k_ ≠ (u3 : Value).ownBlock) rfl rfl ?aP (fun _ hk => hk) ?aF ?aO ?aB ?aS ?aL ?_
                  (case aP => exact (k91_mkF _ _ (⟨y195, rdOf ByteArray.empty l0 (ji6)⟩ : S91) (Kd.V_reads' (Kd.V_mono (ok' := (fun k_ => ((fun k_ => (w.heap.size ≤ k_))) k_ ∧ some k_ ≠ (u3 : Value).ownBlock)) (HO197.out) (fun k_ hk => ⟨hk.1, hk.2⟩))).2.1 (Kd.V_F (Kd.V_mono (ok' := (fun k_ => ((fun k_ => (w.heap.size ≤ k_))) k_ ∧ some k_ ≠ (u3 : Value).ownBlock)) (HO197.out) (fun k_ hk => ⟨hk.1, hk.2⟩)))))
                  (case aB => exact (by repeat (first | (with_reducible first | exact HB.out | apply below_alloc | apply pw_below_drewN | apply below_drew1) | exact HB.out)))
                  (case aF => exact (fun k_ hk => (Nat.le_trans (below_size (by repeat (first | (with_reducible first | exact HB.out | apply below_alloc | apply pw_below_drewN | apply below_drew1) | exact HB.out))) hk)))
                  (case aO => exact (by (with_reducible repeat (first | apply Kd.N_alloc | apply Kd.N_drewN | apply Kd.N_drew)); exact HO_3.out))
                  (case aS => exact (below_size (by repeat (first | (with_reducible first | exact HB.out | apply below_alloc | apply pw_below_drewN | apply below_drew1) | exact HB.out))))
                  (case aL => have := LMc8.out; omega)
                  intro v200 w13 ho hb hg hat
                  rw [← Ny199.out] at ho
                  have n0_ := Aside0.mk (Kd.V_afterv (ok := (fun k_ => (w.heap.size ≤ k_))) (by (with_reducible repeat (first | apply Kd.V_alloc | apply Kd.V_drewN | apply Kd.V_drew)); exact HO197.out) hg hat)
                  have n1_ := Aside0.mk (hb)
                  have n2_ := Aside0.mk (ho)
                  clear HO197
                  clear HB
                  clear HO_3
                  have HO197 := n0_
                  have HB := n1_
                  have HO201 := n2_
                  clear n0_ n1_ n2_
                  clear ho hb hg hat
                  refine hK.out _ _ ⟨((HB.out.cell (World.block_lt_of_cell? w _ hw194_0)).trans hw194_0), ((HB.out.cell (World.block_lt_of_cell? w _ hw198_0)).trans hw198_0)⟩ (fun hHeld => ?_)
                  clear hK K
                  refine norm_ (a' := ?_) ?_ ?_
                  rotate_left
                  · show Act.put _ (some 25) _ = _
                    simp only [Act.put, List.setIfInBounds_toArray, List.set_cons_zero, List.set_cons_succ, i64_w, i32_w]
                    rfl
                  refine pure_ (i := 14) (N := some 3) (v := ?_) (a' := ?_) #[true, true, true, true, true, true, true, true, true, true, true, true, true, true, true] rfl rfl (any_of HT_.out (by kernel_rfl)) (fun _ _ _ h => h) (Or.inl ⟨by rfl, ?_⟩) ?_ ?_
                  rotate_left
                  · intro w'
                    go_simp
                    with_reducible rfl
                  rotate_left
                  · simp only [Act.put, List.setIfInBounds_toArray, List.set_cons_zero, List.set_cons_succ, i64_w, i32_w]
                    rfl
                  refine done_ (done_of HT_.out (by kernel_rfl)) ?_
                  try go_wp2
                  go_roundg k1
                  case measure => have := HK1.out; omega
                  case rel => exact ⟨(y199), (wrap64 (x4_1 + 2)), (by first | rfl | (simp; done) | (simp [*]; done)), H', ⟨by have := HK1.out; omega⟩, ⟨by (with_reducible repeat (first | apply Kd.N_alloc | apply Kd.N_drewN | apply Kd.N_drew)); exact HO201.out⟩, ⟨by repeat (first | (with_reducible first | exact HB.out | apply below_alloc | apply pw_below_drewN | apply below_drew1) | exact HB.out)⟩⟩
                · rw [if_neg c8] at H
                  exact absurd H (by simp)
              · rw [if_neg c7] at H
                exact absurd H (by simp)
            · rw [if_neg c5] at H
              exact absurd H (by simp)
          · rw [if_neg c4] at H
            exact absurd H (by simp)
        · rw [if_neg c3] at H
          exact absurd H (by simp)
      · rw [if_neg c2] at H
        have c2b0 : decide ((wrap64 (x4_1 + 1)) < (l0.length : Int)) = false := decide_eq_false c2
        clear c2
        obtain rfl := Option.some.inj H
        go_wp2
        go_ret
        exact ⟨_, by first | rfl | (simp [errW_none, errW_some] <;> rfl) | (simp [*, errW_none, errW_some] <;> rfl), by (with_reducible repeat (first | apply Kd.N_alloc | apply Kd.N_drewN | apply Kd.N_drew)); exact HO_3.out, by repeat (first | (with_reducible first | exact HB.out | apply below_alloc | apply pw_below_drewN | apply below_drew1) | exact HB.out)⟩

/-! ### repriseref17_arrows: function 60 -/
def repriseref17_arrows.f (k : Nat)  : Option ((List (S91))) := (repriseref17_binds.f k (([(⟨#[27, 91, 65]⟩ : ByteArray), (⟨#[112, 114, 101, 118, 105, 111, 117, 115, 45, 104, 105, 115, 116, 111, 114, 121]⟩ : ByteArray), (⟨#[27, 91, 66]⟩ : ByteArray), (⟨#[110, 101, 120, 116, 45, 104, 105, 115, 116, 111, 114, 121]⟩ : ByteArray), (⟨#[27, 91, 67]⟩ : ByteArray), (⟨#[102, 111, 114, 119, 97, 114, 100, 45, 99, 104, 97, 114]⟩ : ByteArray), (⟨#[27, 91, 68]⟩ : ByteArray), (⟨#[98, 97, 99, 107, 119, 97, 114, 100, 45, 99, 104, 97, 114]⟩ : ByteArray), (⟨#[27, 91, 72]⟩ : ByteArray), (⟨#[98, 101, 103, 105, 110, 110, 105, 110, 103, 45, 111, 102, 45, 108, 105, 110, 101]⟩ : ByteArray), (⟨#[27, 91, 70]⟩ : ByteArray), (⟨#[101, 110, 100, 45, 111, 102, 45, 108, 105, 110, 101]⟩ : ByteArray)] : List ByteArray))).bind fun t205 => (some t205)
theorem repriseref17_arrows.mono : ∀ k, LeO (repriseref17_arrows.f k ) (repriseref17_arrows.f (k + 1) ) := by
  intro  k
  unfold repriseref17_arrows.f
  repeat' first
      | (with_reducible exact repriseref17_binds.mono _ _)
      | (with_reducible exact LeO.refl _)
      | (with_reducible exact LeO.none _)
      | (with_reducible refine LeO.ite ?_ ?_)
      | (with_reducible refine LeO.bind ?_ (fun _ => ?_))
      | exact repriseref17_binds.mono _ _
      | exact LeO.none _
      | refine LeO.ite ?_ ?_
      | refine LeO.bind ?_ (fun _ => ?_)
set_option maxHeartbeats 8000000 in
set_option maxRecDepth 100000 in
theorem repriseref17_arrows.calls (k : Nat)  (r : List (S91)) (w : World) (h : repriseref17_arrows.f k  = some r) :
    Calls Try.prog 60 #[] w fun e w' => ∃ v0_ : Value, e = .returned (v0_) ∧ Kd.N k91 91 w' w.heap.size (fun k_ => (w.heap.size ≤ k_)) v0_ r ∧ Below w.heap.size w w' := by
  have HB := Aside0.mk (Below.refl w.heap.size w)
  have H : ((repriseref17_binds.f k (([(⟨#[27, 91, 65]⟩ : ByteArray), (⟨#[112, 114, 101, 118, 105, 111, 117, 115, 45, 104, 105, 115, 116, 111, 114, 121]⟩ : ByteArray), (⟨#[27, 91, 66]⟩ : ByteArray), (⟨#[110, 101, 120, 116, 45, 104, 105, 115, 116, 111, 114, 121]⟩ : ByteArray), (⟨#[27, 91, 67]⟩ : ByteArray), (⟨#[102, 111, 114, 119, 97, 114, 100, 45, 99, 104, 97, 114]⟩ : ByteArray), (⟨#[27, 91, 68]⟩ : ByteArray), (⟨#[98, 97, 99, 107, 119, 97, 114, 100, 45, 99, 104, 97, 114]⟩ : ByteArray), (⟨#[27, 91, 72]⟩ : ByteArray), (⟨#[98, 101, 103, 105, 110, 110, 105, 110, 103, 45, 111, 102, 45, 108, 105, 110, 101]⟩ : ByteArray), (⟨#[27, 91, 70]⟩ : ByteArray), (⟨#[101, 110, 100, 45, 111, 102, 45, 108, 105, 110, 101]⟩ : ByteArray)] : List ByteArray))).bind fun t205 => (some t205)) = some r := h
  clear h
  obtain ⟨y202, hy202⟩ : ∃ y_ : List ByteArray, y_ = (([(⟨#[27, 91, 65]⟩ : ByteArray), (⟨#[112, 114, 101, 118, 105, 111, 117, 115, 45, 104, 105, 115, 116, 111, 114, 121]⟩ : ByteArray), (⟨#[27, 91, 66]⟩ : ByteArray), (⟨#[110, 101, 120, 116, 45, 104, 105, 115, 116, 111, 114, 121]⟩ : ByteArray), (⟨#[27, 91, 67]⟩ : ByteArray), (⟨#[102, 111, 114, 119, 97, 114, 100, 45, 99, 104, 97, 114]⟩ : ByteArray), (⟨#[27, 91, 68]⟩ : ByteArray), (⟨#[98, 97, 99, 107, 119, 97, 114, 100, 45, 99, 104, 97, 114]⟩ : ByteArray), (⟨#[27, 91, 72]⟩ : ByteArray), (⟨#[98, 101, 103, 105, 110, 110, 105, 110, 103, 45, 111, 102, 45, 108, 105, 110, 101]⟩ : ByteArray), (⟨#[27, 91, 70]⟩ : ByteArray), (⟨#[101, 110, 100, 45, 111, 102, 45, 108, 105, 110, 101]⟩ : ByteArray)] : List ByteArray)) := ⟨_, rfl⟩
  replace H : ((repriseref17_binds.f k y202).bind fun t205 => (some t205)) = some r := by first | (rw [hy202]; with_reducible exact H) | (have H2_ := (Option.bind_some _ _).symm.trans H; rw [hy202]; with_reducible exact H2_) | (have H2_ := (Option.bind_some _ _).symm.trans H; with_reducible exact H2_) | with_reducible exact H | (rw [hy202]; exact H) | exact H
  have Ny202 := Aside0.mk hy202
  clear hy202
  replace H := Option.bind_eq_some_iff.mp H
  obtain ⟨t205, A10, H⟩ := H
  replace H : (some t205) = some r := H
  have A1 := Aside0.mk A10
  clear A10
  obtain rfl := Option.some.inj H
  go_enter Try.func60, Try.ntmps60
  go_wp2_with (first | ((with_reducible refine gate_dst (N := 1) rfl ?_); refine Kd.R_lit Kd.string _ 9 ?hg (N := 1) ?hd (xs := ([(⟨#[27, 91, 65]⟩ : ByteArray), (⟨#[112, 114, 101, 118, 105, 111, 117, 115, 45, 104, 105, 115, 116, 111, 114, 121]⟩ : ByteArray), (⟨#[27, 91, 66]⟩ : ByteArray), (⟨#[110, 101, 120, 116, 45, 104, 105, 115, 116, 111, 114, 121]⟩ : ByteArray), (⟨#[27, 91, 67]⟩ : ByteArray), (⟨#[102, 111, 114, 119, 97, 114, 100, 45, 99, 104, 97, 114]⟩ : ByteArray), (⟨#[27, 91, 68]⟩ : ByteArray), (⟨#[98, 97, 99, 107, 119, 97, 114, 100, 45, 99, 104, 97, 114]⟩ : ByteArray), (⟨#[27, 91, 72]⟩ : ByteArray), (⟨#[98, 101, 103, 105, 110, 110, 105, 110, 103, 45, 111, 102, 45, 108, 105, 110, 101]⟩ : ByteArray), (⟨#[27, 91, 70]⟩ : ByteArray), (⟨#[101, 110, 100, 45, 111, 102, 45, 108, 105, 110, 101]⟩ : ByteArray)] : List ByteArray)) (inner := [.string (⟨#[27, 91, 65]⟩ : ByteArray), .string (⟨#[112, 114, 101, 118, 105, 111, 117, 115, 45, 104, 105, 115, 116, 111, 114, 121]⟩ : ByteArray), .string (⟨#[27, 91, 66]⟩ : ByteArray), .string (⟨#[110, 101, 120, 116, 45, 104, 105, 115, 116, 111, 114, 121]⟩ : ByteArray), .string (⟨#[27, 91, 67]⟩ : ByteArray), .string (⟨#[102, 111, 114, 119, 97, 114, 100, 45, 99, 104, 97, 114]⟩ : ByteArray), .string (⟨#[27, 91, 68]⟩ : ByteArray), .string (⟨#[98, 97, 99, 107, 119, 97, 114, 100, 45, 99, 104, 97, 114]⟩ : ByteArray), .string (⟨#[27, 91, 72]⟩ : ByteArray), .string (⟨#[98, 101, 103, 105, 110, 110, 105, 110, 103, 45, 111, 102, 45, 108, 105, 110, 101]⟩ : ByteArray), .string (⟨#[27, 91, 70]⟩ : ByteArray), .string (⟨#[101, 110, 100, 45, 111, 102, 45, 108, 105, 110, 101]⟩ : ByteArray)]) (ok := fun _ => True) (okp := fun _ => True) ?hr ?hp (fun _ hk => hk) trivial (Below.refl _ _) (Nat.le_refl _) (by simp) ?_; (case hd => rfl); (case hg => rfl); (case hr => first | (go_simp; done) | (go_simp; rfl)); (case hp => exact (Reps.one (show Kd.M Kd.string _ _ _ (⟨#[27, 91, 65]⟩ : ByteArray) [.string (⟨#[27, 91, 65]⟩ : ByteArray)] from rfl) (Reps.one (show Kd.M Kd.string _ _ _ (⟨#[112, 114, 101, 118, 105, 111, 117, 115, 45, 104, 105, 115, 116, 111, 114, 121]⟩ : ByteArray) [.string (⟨#[112, 114, 101, 118, 105, 111, 117, 115, 45, 104, 105, 115, 116, 111, 114, 121]⟩ : ByteArray)] from rfl) (Reps.one (show Kd.M Kd.string _ _ _ (⟨#[27, 91, 66]⟩ : ByteArray) [.string (⟨#[27, 91, 66]⟩ : ByteArray)] from rfl) (Reps.one (show Kd.M Kd.string _ _ _ (⟨#[110, 101, 120, 116, 45, 104, 105, 115, 116, 111, 114, 121]⟩ : ByteArray) [.string (⟨#[110, 101, 120, 116, 45, 104, 105, 115, 116, 111, 114, 121]⟩ : ByteArray)] from rfl) (Reps.one (show Kd.M Kd.string _ _ _ (⟨#[27, 91, 67]⟩ : ByteArray) [.string (⟨#[27, 91, 67]⟩ : ByteArray)] from rfl) (Reps.one (show Kd.M Kd.string _ _ _ (⟨#[102, 111, 114, 119, 97, 114, 100, 45, 99, 104, 97, 114]⟩ : ByteArray) [.string (⟨#[102, 111, 114, 119, 97, 114, 100, 45, 99, 104, 97, 114]⟩ : ByteArray)] from rfl) (Reps.one (show Kd.M Kd.string _ _ _ (⟨#[27, 91, 68]⟩ : ByteArray) [.string (⟨#[27, 91, 68]⟩ : ByteArray)] from rfl) (Reps.one (show Kd.M Kd.string _ _ _ (⟨#[98, 97, 99, 107, 119, 97, 114, 100, 45, 99, 104, 97, 114]⟩ : ByteArray) [.string (⟨#[98, 97, 99, 107, 119, 97, 114, 100, 45, 99, 104, 97, 114]⟩ : ByteArray)] from rfl) (Reps.one (show Kd.M Kd.string _ _ _ (⟨#[27, 91, 72]⟩ : ByteArray) [.string (⟨#[27, 91, 72]⟩ : ByteArray)] from rfl) (Reps.one (show Kd.M Kd.string _ _ _ (⟨#[98, 101, 103, 105, 110, 110, 105, 110, 103, 45, 111, 102, 45, 108, 105, 110, 101]⟩ : ByteArray) [.string (⟨#[98, 101, 103, 105, 110, 110, 105, 110, 103, 45, 111, 102, 45, 108, 105, 110, 101]⟩ : ByteArray)] from rfl) (Reps.one (show Kd.M Kd.string _ _ _ (⟨#[27, 91, 70]⟩ : ByteArray) [.string (⟨#[27, 91, 70]⟩ : ByteArray)] from rfl) (Reps.one (show Kd.M Kd.string _ _ _ (⟨#[101, 110, 100, 45, 111, 102, 45, 108, 105, 110, 101]⟩ : ByteArray) [.string (⟨#[101, 110, 100, 45, 111, 102, 45, 108, 105, 110, 101]⟩ : ByteArray)] from rfl) (Reps.none _ _)))))))))))))); intro v203 w2 ho3 hb hg_ hnew_; clear hg_ hnew_; (first | rw [← Ny202.out] at ho3 | (simp only [Int.reduceToNat] at ho3; rw [← Ny202.out] at ho3)); have n0_ := Aside0.mk (Kd.R_lower (Kd.R_newM (M := fun k_ => (w.heap.size ≤ k_)) ho3 (below_size (by repeat (first | (with_reducible first | exact HB.out | apply below_alloc | apply pw_below_drewN | apply below_drew1) | exact HB.out))) (fun k_ h_ => h_)) (below_size (by repeat (first | (with_reducible first | exact HB.out | apply below_alloc | apply pw_below_drewN | apply below_drew1) | exact HB.out)))); have n1_ := Aside0.mk (below_step (by repeat (first | (with_reducible first | exact HB.out | apply below_alloc | apply pw_below_drewN | apply below_drew1) | exact HB.out)) hb); clear HB; have HO204 := n0_; have HB := n1_; clear n0_ n1_; clear hb ho3; obtain ⟨Ao4, co4, eo4⟩ := Kd.R_slice HO204.out; subst eo4) | ((with_reducible refine gate_callee (f := 59) rfl ?_); refine goesL_ (some 2) rfl rfl Try.func59 (by kernel_rfl) rfl #[.slice Ao4 y202.length co4] rfl (by (try simp only [List.map_toArray, List.map_cons, List.map_nil]); first | done | rfl | (simp only [List.length_drop, List.length_take]; rfl)) ?_; (with_reducible refine (repriseref17_binds.calls k _ _ y202 t205 _ ?side1 ?side2 A1.out).mono ?_); (case side1 => repeat (first | exact (Kd.R_reads' HO204.out).2.2 | (with_reducible refine Kd.C_alloc ?_ _) | (with_reducible refine Kd.C_drewN ?_ _) | (with_reducible refine Kd.C_drew ?_))); (case side2 => exact (Kd.R_reads' HO204.out).2.1); rintro e w5 ⟨v206, rfl, ho0, hb⟩; refine ⟨_, rfl, ?_⟩; have n0_ := Aside0.mk (Kd.R_below (by (with_reducible repeat (first | apply Kd.R_alloc | apply Kd.R_drewN | apply Kd.R_drew)); exact HO204.out) hb); have n1_ := Aside0.mk (Kd.N_lower (Kd.N_mono (ok' := fun k_ => (w.heap.size ≤ k_) ∧ some k_ ≠ (.slice Ao4 y202.length co4 : Value).ownBlock) ho0 (fun k_ hk_ => ⟨(Nat.le_trans (below_size (by repeat (first | (with_reducible first | exact HB.out | apply below_alloc | apply pw_below_drewN | apply below_drew1) | exact HB.out))) hk_), (Kd.fresh' (Kd.R_lt (by (with_reducible repeat (first | apply Kd.R_alloc | apply Kd.R_drewN | apply Kd.R_drew)); exact HO204.out)) k_ hk_)⟩)) (below_size (by repeat (first | (with_reducible first | exact HB.out | apply below_alloc | apply pw_below_drewN | apply below_drew1) | exact HB.out)))); have n2_ := Aside0.mk (below_step (by repeat (first | (with_reducible first | exact HB.out | apply below_alloc | apply pw_below_drewN | apply below_drew1) | exact HB.out)) hb); clear HO204; clear HB; have HO204 := n0_; have HO207 := n1_; have HB := n2_; clear n0_ n1_ n2_; (try clear hb); (try clear hb2); (try clear hk); (try clear hi); (try clear ho0)))
  go_ret
  exact ⟨_, by first | rfl | (simp [errW_none, errW_some] <;> rfl) | (simp [*, errW_none, errW_some] <;> rfl), by (with_reducible repeat (first | apply Kd.N_alloc | apply Kd.N_drewN | apply Kd.N_drew)); exact Kd.N_mono HO207.out (fun _ hk => hk.1), by repeat (first | (with_reducible first | exact HB.out | apply below_alloc | apply pw_below_drewN | apply below_drew1) | exact HB.out)⟩

/-! ### repriseref17_Usual: function 51 -/
def repriseref17_Usual.f (k : Nat) (a0 : Int) : Option ((List (S91))) := if a0 = 0 then ((repriseref17_binds.f k (([(⟨#[1]⟩ : ByteArray), (⟨#[98, 101, 103, 105, 110, 110, 105, 110, 103, 45, 111, 102, 45, 108, 105, 110, 101]⟩ : ByteArray), (⟨#[2]⟩ : ByteArray), (⟨#[98, 97, 99, 107, 119, 97, 114, 100, 45, 99, 104, 97, 114]⟩ : ByteArray), (⟨#[4]⟩ : ByteArray), (⟨#[100, 101, 108, 101, 116, 101, 45, 99, 104, 97, 114]⟩ : ByteArray), (⟨#[5]⟩ : ByteArray), (⟨#[101, 110, 100, 45, 111, 102, 45, 108, 105, 110, 101]⟩ : ByteArray), (⟨#[6]⟩ : ByteArray), (⟨#[102, 111, 114, 119, 97, 114, 100, 45, 99, 104, 97, 114]⟩ : ByteArray), (⟨#[7]⟩ : ByteArray), (⟨#[97, 98, 111, 114, 116]⟩ : ByteArray), (⟨#[8]⟩ : ByteArray), (⟨#[98, 97, 99, 107, 119, 97, 114, 100, 45, 100, 101, 108, 101, 116, 101, 45, 99, 104, 97, 114]⟩ : ByteArray), (⟨#[127]⟩ : ByteArray), (⟨#[98, 97, 99, 107, 119, 97, 114, 100, 45, 100, 101, 108, 101, 116, 101, 45, 99, 104, 97, 114]⟩ : ByteArray), (⟨#[10]⟩ : ByteArray), (⟨#[97, 99, 99, 101, 112, 116, 45, 108, 105, 110, 101]⟩ : ByteArray), (⟨#[13]⟩ : ByteArray), (⟨#[97, 99, 99, 101, 112, 116, 45, 108, 105, 110, 101]⟩ : ByteArray), (⟨#[11]⟩ : ByteArray), (⟨#[107, 105, 108, 108, 45, 108, 105, 110, 101]⟩ : ByteArray), (⟨#[12]⟩ : ByteArray), (⟨#[99, 108, 101, 97, 114, 45, 115, 99, 114, 101, 101, 110]⟩ : ByteArray), (⟨#[14]⟩ : ByteArray), (⟨#[110, 101, 120, 116, 45, 104, 105, 115, 116, 111, 114, 121]⟩ : ByteArray), (⟨#[16]⟩ : ByteArray), (⟨#[112, 114, 101, 118, 105, 111, 117, 115, 45, 104, 105, 115, 116, 111, 114, 121]⟩ : ByteArray), (⟨#[17]⟩ : ByteArray), (⟨#[113, 117, 111, 116, 101, 100, 45, 105, 110, 115, 101, 114, 116]⟩ : ByteArray), (⟨#[22]⟩ : ByteArray), (⟨#[113, 117, 111, 116, 101, 100, 45, 105, 110, 115, 101, 114, 116]⟩ : ByteArray), (⟨#[18]⟩ : ByteArray), (⟨#[114, 101, 118, 101, 114, 115, 101, 45, 115, 101, 97, 114, 99, 104, 45, 104, 105, 115, 116, 111, 114, 121]⟩ : ByteArray), (⟨#[19]⟩ : ByteArray), (⟨#[102, 111, 114, 119, 97, 114, 100, 45, 115, 101, 97, 114, 99, 104, 45, 104, 105, 115, 116, 111, 114, 121]⟩ : ByteArray), (⟨#[20]⟩ : ByteArray), (⟨#[116, 114, 97, 110, 115, 112, 111, 115, 101, 45, 99, 104, 97, 114, 115]⟩ : ByteArray), (⟨#[21]⟩ : ByteArray), (⟨#[117, 110, 105, 120, 45, 108, 105, 110, 101, 45, 100, 105, 115, 99, 97, 114, 100]⟩ : ByteArray), (⟨#[23]⟩ : ByteArray), (⟨#[98, 97, 99, 107, 119, 97, 114, 100, 45, 107, 105, 108, 108, 45, 119, 111, 114, 100]⟩ : ByteArray), (⟨#[25]⟩ : ByteArray), (⟨#[121, 97, 110, 107]⟩ : ByteArray), (⟨#[31]⟩ : ByteArray), (⟨#[117, 110, 100, 111]⟩ : ByteArray), (⟨#[27, 98]⟩ : ByteArray), (⟨#[98, 97, 99, 107, 119, 97, 114, 100, 45, 119, 111, 114, 100]⟩ : ByteArray), (⟨#[27, 99]⟩ : ByteArray), (⟨#[99, 97, 112, 105, 116, 97, 108, 105, 122, 101, 45, 119, 111, 114, 100]⟩ : ByteArray), (⟨#[27, 100]⟩ : ByteArray), (⟨#[107, 105, 108, 108, 45, 119, 111, 114, 100]⟩ : ByteArray), (⟨#[27, 102]⟩ : ByteArray), (⟨#[102, 111, 114, 119, 97, 114, 100, 45, 119, 111, 114, 100]⟩ : ByteArray), (⟨#[27, 108]⟩ : ByteArray), (⟨#[100, 111, 119, 110, 99, 97, 115, 101, 45, 119, 111, 114, 100]⟩ : ByteArray), (⟨#[27, 116]⟩ : ByteArray), (⟨#[116, 114, 97, 110, 115, 112, 111, 115, 101, 45, 119, 111, 114, 100, 115]⟩ : ByteArray), (⟨#[27, 117]⟩ : ByteArray), (⟨#[117, 112, 99, 97, 115, 101, 45, 119, 111, 114, 100]⟩ : ByteArray), (⟨#[27, 121]⟩ : ByteArray), (⟨#[121, 97, 110, 107, 45, 112, 111, 112]⟩ : ByteArray), (⟨#[27, 60]⟩ : ByteArray), (⟨#[98, 101, 103, 105, 110, 110, 105, 110, 103, 45, 111, 102, 45, 104, 105, 115, 116, 111, 114, 121]⟩ : ByteArray), (⟨#[27, 62]⟩ : ByteArray), (⟨#[101, 110, 100, 45, 111, 102, 45, 104, 105, 115, 116, 111, 114, 121]⟩ : ByteArray), (⟨#[27, 127]⟩ : ByteArray), (⟨#[98, 97, 99, 107, 119, 97, 114, 100, 45, 107, 105, 108, 108, 45, 119, 111, 114, 100]⟩ : ByteArray), (⟨#[27, 48]⟩ : ByteArray), (⟨#[100, 105, 103, 105, 116, 45, 97, 114, 103, 117, 109, 101, 110, 116]⟩ : ByteArray), (⟨#[27, 49]⟩ : ByteArray), (⟨#[100, 105, 103, 105, 116, 45, 97, 114, 103, 117, 109, 101, 110, 116]⟩ : ByteArray), (⟨#[27, 50]⟩ : ByteArray), (⟨#[100, 105, 103, 105, 116, 45, 97, 114, 103, 117, 109, 101, 110, 116]⟩ : ByteArray), (⟨#[27, 51]⟩ : ByteArray), (⟨#[100, 105, 103, 105, 116, 45, 97, 114, 103, 117, 109, 101, 110, 116]⟩ : ByteArray), (⟨#[27, 52]⟩ : ByteArray), (⟨#[100, 105, 103, 105, 116, 45, 97, 114, 103, 117, 109, 101, 110, 116]⟩ : ByteArray), (⟨#[27, 53]⟩ : ByteArray), (⟨#[100, 105, 103, 105, 116, 45, 97, 114, 103, 117, 109, 101, 110, 116]⟩ : ByteArray), (⟨#[27, 54]⟩ : ByteArray), (⟨#[100, 105, 103, 105, 116, 45, 97, 114, 103, 117, 109, 101, 110, 116]⟩ : ByteArray), (⟨#[27, 55]⟩ : ByteArray), (⟨#[100, 105, 103, 105, 116, 45, 97, 114, 103, 117, 109, 101, 110, 116]⟩ : ByteArray), (⟨#[27, 56]⟩ : ByteArray), (⟨#[100, 105, 103, 105, 116, 45, 97, 114, 103, 117, 109, 101, 110, 116]⟩ : ByteArray), (⟨#[27, 57]⟩ : ByteArray), (⟨#[100, 105, 103, 105, 116, 45, 97, 114, 103, 117, 109, 101, 110, 116]⟩ : ByteArray), (⟨#[27, 45]⟩ : ByteArray), (⟨#[100, 105, 103, 105, 116, 45, 97, 114, 103, 117, 109, 101, 110, 116]⟩ : ByteArray)] : List ByteArray))).bind fun t211 => ((repriseref17_arrows.f k).bind fun t214 => (if t211.length + t214.length < 3518437208883 then (some (t211 ++ t214)) else (none)))) else (none)
theorem repriseref17_Usual.mono : ∀ a0 k, LeO (repriseref17_Usual.f k a0) (repriseref17_Usual.f (k + 1) a0) := by
  intro a0 k
  unfold repriseref17_Usual.f
  repeat' first
      | (with_reducible exact repriseref17_arrows.mono _)
      | (with_reducible exact repriseref17_binds.mono _ _)
      | (with_reducible exact LeO.refl _)
      | (with_reducible exact LeO.none _)
      | (with_reducible refine LeO.ite ?_ ?_)
      | (with_reducible refine LeO.bind ?_ (fun _ => ?_))
      | exact repriseref17_arrows.mono _
      | exact repriseref17_binds.mono _ _
      | exact LeO.none _
      | refine LeO.ite ?_ ?_
      | refine LeO.bind ?_ (fun _ => ?_)
set_option maxHeartbeats 8000000 in
set_option maxRecDepth 100000 in
theorem repriseref17_Usual.calls (k : Nat) (a0 : Int) (r : List (S91)) (w : World) (h : repriseref17_Usual.f k a0 = some r) :
    Calls Try.prog 51 #[.int .i64 a0] w fun e w' => ∃ v0_ : Value, e = .returned (v0_) ∧ Kd.N k91 91 w' w.heap.size (fun k_ => (w.heap.size ≤ k_)) v0_ r ∧ Below w.heap.size w w' := by
  have HB := Aside0.mk (Below.refl w.heap.size w)
  have H : (if a0 = 0 then ((repriseref17_binds.f k (([(⟨#[1]⟩ : ByteArray), (⟨#[98, 101, 103, 105, 110, 110, 105, 110, 103, 45, 111, 102, 45, 108, 105, 110, 101]⟩ : ByteArray), (⟨#[2]⟩ : ByteArray), (⟨#[98, 97, 99, 107, 119, 97, 114, 100, 45, 99, 104, 97, 114]⟩ : ByteArray), (⟨#[4]⟩ : ByteArray), (⟨#[100, 101, 108, 101, 116, 101, 45, 99, 104, 97, 114]⟩ : ByteArray), (⟨#[5]⟩ : ByteArray), (⟨#[101, 110, 100, 45, 111, 102, 45, 108, 105, 110, 101]⟩ : ByteArray), (⟨#[6]⟩ : ByteArray), (⟨#[102, 111, 114, 119, 97, 114, 100, 45, 99, 104, 97, 114]⟩ : ByteArray), (⟨#[7]⟩ : ByteArray), (⟨#[97, 98, 111, 114, 116]⟩ : ByteArray), (⟨#[8]⟩ : ByteArray), (⟨#[98, 97, 99, 107, 119, 97, 114, 100, 45, 100, 101, 108, 101, 116, 101, 45, 99, 104, 97, 114]⟩ : ByteArray), (⟨#[127]⟩ : ByteArray), (⟨#[98, 97, 99, 107, 119, 97, 114, 100, 45, 100, 101, 108, 101, 116, 101, 45, 99, 104, 97, 114]⟩ : ByteArray), (⟨#[10]⟩ : ByteArray), (⟨#[97, 99, 99, 101, 112, 116, 45, 108, 105, 110, 101]⟩ : ByteArray), (⟨#[13]⟩ : ByteArray), (⟨#[97, 99, 99, 101, 112, 116, 45, 108, 105, 110, 101]⟩ : ByteArray), (⟨#[11]⟩ : ByteArray), (⟨#[107, 105, 108, 108, 45, 108, 105, 110, 101]⟩ : ByteArray), (⟨#[12]⟩ : ByteArray), (⟨#[99, 108, 101, 97, 114, 45, 115, 99, 114, 101, 101, 110]⟩ : ByteArray), (⟨#[14]⟩ : ByteArray), (⟨#[110, 101, 120, 116, 45, 104, 105, 115, 116, 111, 114, 121]⟩ : ByteArray), (⟨#[16]⟩ : ByteArray), (⟨#[112, 114, 101, 118, 105, 111, 117, 115, 45, 104, 105, 115, 116, 111, 114, 121]⟩ : ByteArray), (⟨#[17]⟩ : ByteArray), (⟨#[113, 117, 111, 116, 101, 100, 45, 105, 110, 115, 101, 114, 116]⟩ : ByteArray), (⟨#[22]⟩ : ByteArray), (⟨#[113, 117, 111, 116, 101, 100, 45, 105, 110, 115, 101, 114, 116]⟩ : ByteArray), (⟨#[18]⟩ : ByteArray), (⟨#[114, 101, 118, 101, 114, 115, 101, 45, 115, 101, 97, 114, 99, 104, 45, 104, 105, 115, 116, 111, 114, 121]⟩ : ByteArray), (⟨#[19]⟩ : ByteArray), (⟨#[102, 111, 114, 119, 97, 114, 100, 45, 115, 101, 97, 114, 99, 104, 45, 104, 105, 115, 116, 111, 114, 121]⟩ : ByteArray), (⟨#[20]⟩ : ByteArray), (⟨#[116, 114, 97, 110, 115, 112, 111, 115, 101, 45, 99, 104, 97, 114, 115]⟩ : ByteArray), (⟨#[21]⟩ : ByteArray), (⟨#[117, 110, 105, 120, 45, 108, 105, 110, 101, 45, 100, 105, 115, 99, 97, 114, 100]⟩ : ByteArray), (⟨#[23]⟩ : ByteArray), (⟨#[98, 97, 99, 107, 119, 97, 114, 100, 45, 107, 105, 108, 108, 45, 119, 111, 114, 100]⟩ : ByteArray), (⟨#[25]⟩ : ByteArray), (⟨#[121, 97, 110, 107]⟩ : ByteArray), (⟨#[31]⟩ : ByteArray), (⟨#[117, 110, 100, 111]⟩ : ByteArray), (⟨#[27, 98]⟩ : ByteArray), (⟨#[98, 97, 99, 107, 119, 97, 114, 100, 45, 119, 111, 114, 100]⟩ : ByteArray), (⟨#[27, 99]⟩ : ByteArray), (⟨#[99, 97, 112, 105, 116, 97, 108, 105, 122, 101, 45, 119, 111, 114, 100]⟩ : ByteArray), (⟨#[27, 100]⟩ : ByteArray), (⟨#[107, 105, 108, 108, 45, 119, 111, 114, 100]⟩ : ByteArray), (⟨#[27, 102]⟩ : ByteArray), (⟨#[102, 111, 114, 119, 97, 114, 100, 45, 119, 111, 114, 100]⟩ : ByteArray), (⟨#[27, 108]⟩ : ByteArray), (⟨#[100, 111, 119, 110, 99, 97, 115, 101, 45, 119, 111, 114, 100]⟩ : ByteArray), (⟨#[27, 116]⟩ : ByteArray), (⟨#[116, 114, 97, 110, 115, 112, 111, 115, 101, 45, 119, 111, 114, 100, 115]⟩ : ByteArray), (⟨#[27, 117]⟩ : ByteArray), (⟨#[117, 112, 99, 97, 115, 101, 45, 119, 111, 114, 100]⟩ : ByteArray), (⟨#[27, 121]⟩ : ByteArray), (⟨#[121, 97, 110, 107, 45, 112, 111, 112]⟩ : ByteArray), (⟨#[27, 60]⟩ : ByteArray), (⟨#[98, 101, 103, 105, 110, 110, 105, 110, 103, 45, 111, 102, 45, 104, 105, 115, 116, 111, 114, 121]⟩ : ByteArray), (⟨#[27, 62]⟩ : ByteArray), (⟨#[101, 110, 100, 45, 111, 102, 45, 104, 105, 115, 116, 111, 114, 121]⟩ : ByteArray), (⟨#[27, 127]⟩ : ByteArray), (⟨#[98, 97, 99, 107, 119, 97, 114, 100, 45, 107, 105, 108, 108, 45, 119, 111, 114, 100]⟩ : ByteArray), (⟨#[27, 48]⟩ : ByteArray), (⟨#[100, 105, 103, 105, 116, 45, 97, 114, 103, 117, 109, 101, 110, 116]⟩ : ByteArray), (⟨#[27, 49]⟩ : ByteArray), (⟨#[100, 105, 103, 105, 116, 45, 97, 114, 103, 117, 109, 101, 110, 116]⟩ : ByteArray), (⟨#[27, 50]⟩ : ByteArray), (⟨#[100, 105, 103, 105, 116, 45, 97, 114, 103, 117, 109, 101, 110, 116]⟩ : ByteArray), (⟨#[27, 51]⟩ : ByteArray), (⟨#[100, 105, 103, 105, 116, 45, 97, 114, 103, 117, 109, 101, 110, 116]⟩ : ByteArray), (⟨#[27, 52]⟩ : ByteArray), (⟨#[100, 105, 103, 105, 116, 45, 97, 114, 103, 117, 109, 101, 110, 116]⟩ : ByteArray), (⟨#[27, 53]⟩ : ByteArray), (⟨#[100, 105, 103, 105, 116, 45, 97, 114, 103, 117, 109, 101, 110, 116]⟩ : ByteArray), (⟨#[27, 54]⟩ : ByteArray), (⟨#[100, 105, 103, 105, 116, 45, 97, 114, 103, 117, 109, 101, 110, 116]⟩ : ByteArray), (⟨#[27, 55]⟩ : ByteArray), (⟨#[100, 105, 103, 105, 116, 45, 97, 114, 103, 117, 109, 101, 110, 116]⟩ : ByteArray), (⟨#[27, 56]⟩ : ByteArray), (⟨#[100, 105, 103, 105, 116, 45, 97, 114, 103, 117, 109, 101, 110, 116]⟩ : ByteArray), (⟨#[27, 57]⟩ : ByteArray), (⟨#[100, 105, 103, 105, 116, 45, 97, 114, 103, 117, 109, 101, 110, 116]⟩ : ByteArray), (⟨#[27, 45]⟩ : ByteArray), (⟨#[100, 105, 103, 105, 116, 45, 97, 114, 103, 117, 109, 101, 110, 116]⟩ : ByteArray)] : List ByteArray))).bind fun t211 => ((repriseref17_arrows.f k).bind fun t214 => (if t211.length + t214.length < 3518437208883 then (some (t211 ++ t214)) else (none)))) else (none)) = some r := h
  clear h
  by_cases c2 : a0 = 0
  · rw [if_pos c2] at H
    have c2b0 : (a0 == 0) = true := beq_iff_eq.mpr c2
    have c2b1 : (a0 != 0) = false := bne_eq_false_iff_eq.mpr c2
    clear c2
    obtain ⟨y208, hy208⟩ : ∃ y_ : List ByteArray, y_ = (([(⟨#[1]⟩ : ByteArray), (⟨#[98, 101, 103, 105, 110, 110, 105, 110, 103, 45, 111, 102, 45, 108, 105, 110, 101]⟩ : ByteArray), (⟨#[2]⟩ : ByteArray), (⟨#[98, 97, 99, 107, 119, 97, 114, 100, 45, 99, 104, 97, 114]⟩ : ByteArray), (⟨#[4]⟩ : ByteArray), (⟨#[100, 101, 108, 101, 116, 101, 45, 99, 104, 97, 114]⟩ : ByteArray), (⟨#[5]⟩ : ByteArray), (⟨#[101, 110, 100, 45, 111, 102, 45, 108, 105, 110, 101]⟩ : ByteArray), (⟨#[6]⟩ : ByteArray), (⟨#[102, 111, 114, 119, 97, 114, 100, 45, 99, 104, 97, 114]⟩ : ByteArray), (⟨#[7]⟩ : ByteArray), (⟨#[97, 98, 111, 114, 116]⟩ : ByteArray), (⟨#[8]⟩ : ByteArray), (⟨#[98, 97, 99, 107, 119, 97, 114, 100, 45, 100, 101, 108, 101, 116, 101, 45, 99, 104, 97, 114]⟩ : ByteArray), (⟨#[127]⟩ : ByteArray), (⟨#[98, 97, 99, 107, 119, 97, 114, 100, 45, 100, 101, 108, 101, 116, 101, 45, 99, 104, 97, 114]⟩ : ByteArray), (⟨#[10]⟩ : ByteArray), (⟨#[97, 99, 99, 101, 112, 116, 45, 108, 105, 110, 101]⟩ : ByteArray), (⟨#[13]⟩ : ByteArray), (⟨#[97, 99, 99, 101, 112, 116, 45, 108, 105, 110, 101]⟩ : ByteArray), (⟨#[11]⟩ : ByteArray), (⟨#[107, 105, 108, 108, 45, 108, 105, 110, 101]⟩ : ByteArray), (⟨#[12]⟩ : ByteArray), (⟨#[99, 108, 101, 97, 114, 45, 115, 99, 114, 101, 101, 110]⟩ : ByteArray), (⟨#[14]⟩ : ByteArray), (⟨#[110, 101, 120, 116, 45, 104, 105, 115, 116, 111, 114, 121]⟩ : ByteArray), (⟨#[16]⟩ : ByteArray), (⟨#[112, 114, 101, 118, 105, 111, 117, 115, 45, 104, 105, 115, 116, 111, 114, 121]⟩ : ByteArray), (⟨#[17]⟩ : ByteArray), (⟨#[113, 117, 111, 116, 101, 100, 45, 105, 110, 115, 101, 114, 116]⟩ : ByteArray), (⟨#[22]⟩ : ByteArray), (⟨#[113, 117, 111, 116, 101, 100, 45, 105, 110, 115, 101, 114, 116]⟩ : ByteArray), (⟨#[18]⟩ : ByteArray), (⟨#[114, 101, 118, 101, 114, 115, 101, 45, 115, 101, 97, 114, 99, 104, 45, 104, 105, 115, 116, 111, 114, 121]⟩ : ByteArray), (⟨#[19]⟩ : ByteArray), (⟨#[102, 111, 114, 119, 97, 114, 100, 45, 115, 101, 97, 114, 99, 104, 45, 104, 105, 115, 116, 111, 114, 121]⟩ : ByteArray), (⟨#[20]⟩ : ByteArray), (⟨#[116, 114, 97, 110, 115, 112, 111, 115, 101, 45, 99, 104, 97, 114, 115]⟩ : ByteArray), (⟨#[21]⟩ : ByteArray), (⟨#[117, 110, 105, 120, 45, 108, 105, 110, 101, 45, 100, 105, 115, 99, 97, 114, 100]⟩ : ByteArray), (⟨#[23]⟩ : ByteArray), (⟨#[98, 97, 99, 107, 119, 97, 114, 100, 45, 107, 105, 108, 108, 45, 119, 111, 114, 100]⟩ : ByteArray), (⟨#[25]⟩ : ByteArray), (⟨#[121, 97, 110, 107]⟩ : ByteArray), (⟨#[31]⟩ : ByteArray), (⟨#[117, 110, 100, 111]⟩ : ByteArray), (⟨#[27, 98]⟩ : ByteArray), (⟨#[98, 97, 99, 107, 119, 97, 114, 100, 45, 119, 111, 114, 100]⟩ : ByteArray), (⟨#[27, 99]⟩ : ByteArray), (⟨#[99, 97, 112, 105, 116, 97, 108, 105, 122, 101, 45, 119, 111, 114, 100]⟩ : ByteArray), (⟨#[27, 100]⟩ : ByteArray), (⟨#[107, 105, 108, 108, 45, 119, 111, 114, 100]⟩ : ByteArray), (⟨#[27, 102]⟩ : ByteArray), (⟨#[102, 111, 114, 119, 97, 114, 100, 45, 119, 111, 114, 100]⟩ : ByteArray), (⟨#[27, 108]⟩ : ByteArray), (⟨#[100, 111, 119, 110, 99, 97, 115, 101, 45, 119, 111, 114, 100]⟩ : ByteArray), (⟨#[27, 116]⟩ : ByteArray), (⟨#[116, 114, 97, 110, 115, 112, 111, 115, 101, 45, 119, 111, 114, 100, 115]⟩ : ByteArray), (⟨#[27, 117]⟩ : ByteArray), (⟨#[117, 112, 99, 97, 115, 101, 45, 119, 111, 114, 100]⟩ : ByteArray), (⟨#[27, 121]⟩ : ByteArray), (⟨#[121, 97, 110, 107, 45, 112, 111, 112]⟩ : ByteArray), (⟨#[27, 60]⟩ : ByteArray), (⟨#[98, 101, 103, 105, 110, 110, 105, 110, 103, 45, 111, 102, 45, 104, 105, 115, 116, 111, 114, 121]⟩ : ByteArray), (⟨#[27, 62]⟩ : ByteArray), (⟨#[101, 110, 100, 45, 111, 102, 45, 104, 105, 115, 116, 111, 114, 121]⟩ : ByteArray), (⟨#[27, 127]⟩ : ByteArray), (⟨#[98, 97, 99, 107, 119, 97, 114, 100, 45, 107, 105, 108, 108, 45, 119, 111, 114, 100]⟩ : ByteArray), (⟨#[27, 48]⟩ : ByteArray), (⟨#[100, 105, 103, 105, 116, 45, 97, 114, 103, 117, 109, 101, 110, 116]⟩ : ByteArray), (⟨#[27, 49]⟩ : ByteArray), (⟨#[100, 105, 103, 105, 116, 45, 97, 114, 103, 117, 109, 101, 110, 116]⟩ : ByteArray), (⟨#[27, 50]⟩ : ByteArray), (⟨#[100, 105, 103, 105, 116, 45, 97, 114, 103, 117, 109, 101, 110, 116]⟩ : ByteArray), (⟨#[27, 51]⟩ : ByteArray), (⟨#[100, 105, 103, 105, 116, 45, 97, 114, 103, 117, 109, 101, 110, 116]⟩ : ByteArray), (⟨#[27, 52]⟩ : ByteArray), (⟨#[100, 105, 103, 105, 116, 45, 97, 114, 103, 117, 109, 101, 110, 116]⟩ : ByteArray), (⟨#[27, 53]⟩ : ByteArray), (⟨#[100, 105, 103, 105, 116, 45, 97, 114, 103, 117, 109, 101, 110, 116]⟩ : ByteArray), (⟨#[27, 54]⟩ : ByteArray), (⟨#[100, 105, 103, 105, 116, 45, 97, 114, 103, 117, 109, 101, 110, 116]⟩ : ByteArray), (⟨#[27, 55]⟩ : ByteArray), (⟨#[100, 105, 103, 105, 116, 45, 97, 114, 103, 117, 109, 101, 110, 116]⟩ : ByteArray), (⟨#[27, 56]⟩ : ByteArray), (⟨#[100, 105, 103, 105, 116, 45, 97, 114, 103, 117, 109, 101, 110, 116]⟩ : ByteArray), (⟨#[27, 57]⟩ : ByteArray), (⟨#[100, 105, 103, 105, 116, 45, 97, 114, 103, 117, 109, 101, 110, 116]⟩ : ByteArray), (⟨#[27, 45]⟩ : ByteArray), (⟨#[100, 105, 103, 105, 116, 45, 97, 114, 103, 117, 109, 101, 110, 116]⟩ : ByteArray)] : List ByteArray)) := ⟨_, rfl⟩
    replace H : ((repriseref17_binds.f k y208).bind fun t211 => ((repriseref17_arrows.f k).bind fun t214 => (if t211.length + t214.length < 3518437208883 then (some (t211 ++ t214)) else (none)))) = some r := by first | (rw [hy208]; with_reducible exact H) | (have H2_ := (Option.bind_some _ _).symm.trans H; rw [hy208]; with_reducible exact H2_) | (have H2_ := (Option.bind_some _ _).symm.trans H; with_reducible exact H2_) | with_reducible exact H | (rw [hy208]; exact H) | exact H
    have Ny208 := Aside0.mk hy208
    clear hy208
    replace H := Option.bind_eq_some_iff.mp H
    obtain ⟨t211, A30, H⟩ := H
    replace H : ((repriseref17_arrows.f k).bind fun t214 => (if t211.length + t214.length < 3518437208883 then (some (t211 ++ t214)) else (none))) = some r := H
    have A3 := Aside0.mk A30
    clear A30
    replace H := Option.bind_eq_some_iff.mp H
    obtain ⟨t214, A40, H⟩ := H
    replace H : (if t211.length + t214.length < 3518437208883 then (some (t211 ++ t214)) else (none)) = some r := H
    have A4 := Aside0.mk A40
    clear A40
    by_cases c5 : t211.length + t214.length < 3518437208883
    · rw [if_pos c5] at H
      have LMc5 := Aside0.mk c5
      clear c5
      obtain ⟨y217, hy217⟩ : ∃ y_ : List (S91), y_ = (t211 ++ t214) := ⟨_, rfl⟩
      replace H : (some y217) = some r := by first | (rw [hy217]; with_reducible exact H) | (have H2_ := (Option.bind_some _ _).symm.trans H; rw [hy217]; with_reducible exact H2_) | (have H2_ := (Option.bind_some _ _).symm.trans H; with_reducible exact H2_) | with_reducible exact H | (rw [hy217]; exact H) | exact H
      have Ny217 := Aside0.mk hy217
      clear hy217
      obtain rfl := Option.some.inj H
      go_enter Try.func51, Try.ntmps51
      go_wp2_with (first | ((with_reducible refine gate_dst (N := 9) rfl ?_); refine Kd.R_lit Kd.string _ 9 ?hg (N := 9) ?hd (xs := ([(⟨#[1]⟩ : ByteArray), (⟨#[98, 101, 103, 105, 110, 110, 105, 110, 103, 45, 111, 102, 45, 108, 105, 110, 101]⟩ : ByteArray), (⟨#[2]⟩ : ByteArray), (⟨#[98, 97, 99, 107, 119, 97, 114, 100, 45, 99, 104, 97, 114]⟩ : ByteArray), (⟨#[4]⟩ : ByteArray), (⟨#[100, 101, 108, 101, 116, 101, 45, 99, 104, 97, 114]⟩ : ByteArray), (⟨#[5]⟩ : ByteArray), (⟨#[101, 110, 100, 45, 111, 102, 45, 108, 105, 110, 101]⟩ : ByteArray), (⟨#[6]⟩ : ByteArray), (⟨#[102, 111, 114, 119, 97, 114, 100, 45, 99, 104, 97, 114]⟩ : ByteArray), (⟨#[7]⟩ : ByteArray), (⟨#[97, 98, 111, 114, 116]⟩ : ByteArray), (⟨#[8]⟩ : ByteArray), (⟨#[98, 97, 99, 107, 119, 97, 114, 100, 45, 100, 101, 108, 101, 116, 101, 45, 99, 104, 97, 114]⟩ : ByteArray), (⟨#[127]⟩ : ByteArray), (⟨#[98, 97, 99, 107, 119, 97, 114, 100, 45, 100, 101, 108, 101, 116, 101, 45, 99, 104, 97, 114]⟩ : ByteArray), (⟨#[10]⟩ : ByteArray), (⟨#[97, 99, 99, 101, 112, 116, 45, 108, 105, 110, 101]⟩ : ByteArray), (⟨#[13]⟩ : ByteArray), (⟨#[97, 99, 99, 101, 112, 116, 45, 108, 105, 110, 101]⟩ : ByteArray), (⟨#[11]⟩ : ByteArray), (⟨#[107, 105, 108, 108, 45, 108, 105, 110, 101]⟩ : ByteArray), (⟨#[12]⟩ : ByteArray), (⟨#[99, 108, 101, 97, 114, 45, 115, 99, 114, 101, 101, 110]⟩ : ByteArray), (⟨#[14]⟩ : ByteArray), (⟨#[110, 101, 120, 116, 45, 104, 105, 115, 116, 111, 114, 121]⟩ : ByteArray), (⟨#[16]⟩ : ByteArray), (⟨#[112, 114, 101, 118, 105, 111, 117, 115, 45, 104, 105, 115, 116, 111, 114, 121]⟩ : ByteArray), (⟨#[17]⟩ : ByteArray), (⟨#[113, 117, 111, 116, 101, 100, 45, 105, 110, 115, 101, 114, 116]⟩ : ByteArray), (⟨#[22]⟩ : ByteArray), (⟨#[113, 117, 111, 116, 101, 100, 45, 105, 110, 115, 101, 114, 116]⟩ : ByteArray), (⟨#[18]⟩ : ByteArray), (⟨#[114, 101, 118, 101, 114, 115, 101, 45, 115, 101, 97, 114, 99, 104, 45, 104, 105, 115, 116, 111, 114, 121]⟩ : ByteArray), (⟨#[19]⟩ : ByteArray), (⟨#[102, 111, 114, 119, 97, 114, 100, 45, 115, 101, 97, 114, 99, 104, 45, 104, 105, 115, 116, 111, 114, 121]⟩ : ByteArray), (⟨#[20]⟩ : ByteArray), (⟨#[116, 114, 97, 110, 115, 112, 111, 115, 101, 45, 99, 104, 97, 114, 115]⟩ : ByteArray), (⟨#[21]⟩ : ByteArray), (⟨#[117, 110, 105, 120, 45, 108, 105, 110, 101, 45, 100, 105, 115, 99, 97, 114, 100]⟩ : ByteArray), (⟨#[23]⟩ : ByteArray), (⟨#[98, 97, 99, 107, 119, 97, 114, 100, 45, 107, 105, 108, 108, 45, 119, 111, 114, 100]⟩ : ByteArray), (⟨#[25]⟩ : ByteArray), (⟨#[121, 97, 110, 107]⟩ : ByteArray), (⟨#[31]⟩ : ByteArray), (⟨#[117, 110, 100, 111]⟩ : ByteArray), (⟨#[27, 98]⟩ : ByteArray), (⟨#[98, 97, 99, 107, 119, 97, 114, 100, 45, 119, 111, 114, 100]⟩ : ByteArray), (⟨#[27, 99]⟩ : ByteArray), (⟨#[99, 97, 112, 105, 116, 97, 108, 105, 122, 101, 45, 119, 111, 114, 100]⟩ : ByteArray), (⟨#[27, 100]⟩ : ByteArray), (⟨#[107, 105, 108, 108, 45, 119, 111, 114, 100]⟩ : ByteArray), (⟨#[27, 102]⟩ : ByteArray), (⟨#[102, 111, 114, 119, 97, 114, 100, 45, 119, 111, 114, 100]⟩ : ByteArray), (⟨#[27, 108]⟩ : ByteArray), (⟨#[100, 111, 119, 110, 99, 97, 115, 101, 45, 119, 111, 114, 100]⟩ : ByteArray), (⟨#[27, 116]⟩ : ByteArray), (⟨#[116, 114, 97, 110, 115, 112, 111, 115, 101, 45, 119, 111, 114, 100, 115]⟩ : ByteArray), (⟨#[27, 117]⟩ : ByteArray), (⟨#[117, 112, 99, 97, 115, 101, 45, 119, 111, 114, 100]⟩ : ByteArray), (⟨#[27, 121]⟩ : ByteArray), (⟨#[121, 97, 110, 107, 45, 112, 111, 112]⟩ : ByteArray), (⟨#[27, 60]⟩ : ByteArray), (⟨#[98, 101, 103, 105, 110, 110, 105, 110, 103, 45, 111, 102, 45, 104, 105, 115, 116, 111, 114, 121]⟩ : ByteArray), (⟨#[27, 62]⟩ : ByteArray), (⟨#[101, 110, 100, 45, 111, 102, 45, 104, 105, 115, 116, 111, 114, 121]⟩ : ByteArray), (⟨#[27, 127]⟩ : ByteArray), (⟨#[98, 97, 99, 107, 119, 97, 114, 100, 45, 107, 105, 108, 108, 45, 119, 111, 114, 100]⟩ : ByteArray), (⟨#[27, 48]⟩ : ByteArray), (⟨#[100, 105, 103, 105, 116, 45, 97, 114, 103, 117, 109, 101, 110, 116]⟩ : ByteArray), (⟨#[27, 49]⟩ : ByteArray), (⟨#[100, 105, 103, 105, 116, 45, 97, 114, 103, 117, 109, 101, 110, 116]⟩ : ByteArray), (⟨#[27, 50]⟩ : ByteArray), (⟨#[100, 105, 103, 105, 116, 45, 97, 114, 103, 117, 109, 101, 110, 116]⟩ : ByteArray), (⟨#[27, 51]⟩ : ByteArray), (⟨#[100, 105, 103, 105, 116, 45, 97, 114, 103, 117, 109, 101, 110, 116]⟩ : ByteArray), (⟨#[27, 52]⟩ : ByteArray), (⟨#[100, 105, 103, 105, 116, 45, 97, 114, 103, 117, 109, 101, 110, 116]⟩ : ByteArray), (⟨#[27, 53]⟩ : ByteArray), (⟨#[100, 105, 103, 105, 116, 45, 97, 114, 103, 117, 109, 101, 110, 116]⟩ : ByteArray), (⟨#[27, 54]⟩ : ByteArray), (⟨#[100, 105, 103, 105, 116, 45, 97, 114, 103, 117, 109, 101, 110, 116]⟩ : ByteArray), (⟨#[27, 55]⟩ : ByteArray), (⟨#[100, 105, 103, 105, 116, 45, 97, 114, 103, 117, 109, 101, 110, 116]⟩ : ByteArray), (⟨#[27, 56]⟩ : ByteArray), (⟨#[100, 105, 103, 105, 116, 45, 97, 114, 103, 117, 109, 101, 110, 116]⟩ : ByteArray), (⟨#[27, 57]⟩ : ByteArray), (⟨#[100, 105, 103, 105, 116, 45, 97, 114, 103, 117, 109, 101, 110, 116]⟩ : ByteArray), (⟨#[27, 45]⟩ : ByteArray), (⟨#[100, 105, 103, 105, 116, 45, 97, 114, 103, 117, 109, 101, 110, 116]⟩ : ByteArray)] : List ByteArray)) (inner := [.string (⟨#[1]⟩ : ByteArray), .string (⟨#[98, 101, 103, 105, 110, 110, 105, 110, 103, 45, 111, 102, 45, 108, 105, 110, 101]⟩ : ByteArray), .string (⟨#[2]⟩ : ByteArray), .string (⟨#[98, 97, 99, 107, 119, 97, 114, 100, 45, 99, 104, 97, 114]⟩ : ByteArray), .string (⟨#[4]⟩ : ByteArray), .string (⟨#[100, 101, 108, 101, 116, 101, 45, 99, 104, 97, 114]⟩ : ByteArray), .string (⟨#[5]⟩ : ByteArray), .string (⟨#[101, 110, 100, 45, 111, 102, 45, 108, 105, 110, 101]⟩ : ByteArray), .string (⟨#[6]⟩ : ByteArray), .string (⟨#[102, 111, 114, 119, 97, 114, 100, 45, 99, 104, 97, 114]⟩ : ByteArray), .string (⟨#[7]⟩ : ByteArray), .string (⟨#[97, 98, 111, 114, 116]⟩ : ByteArray), .string (⟨#[8]⟩ : ByteArray), .string (⟨#[98, 97, 99, 107, 119, 97, 114, 100, 45, 100, 101, 108, 101, 116, 101, 45, 99, 104, 97, 114]⟩ : ByteArray), .string (⟨#[127]⟩ : ByteArray), .string (⟨#[98, 97, 99, 107, 119, 97, 114, 100, 45, 100, 101, 108, 101, 116, 101, 45, 99, 104, 97, 114]⟩ : ByteArray), .string (⟨#[10]⟩ : ByteArray), .string (⟨#[97, 99, 99, 101, 112, 116, 45, 108, 105, 110, 101]⟩ : ByteArray), .string (⟨#[13]⟩ : ByteArray), .string (⟨#[97, 99, 99, 101, 112, 116, 45, 108, 105, 110, 101]⟩ : ByteArray), .string (⟨#[11]⟩ : ByteArray), .string (⟨#[107, 105, 108, 108, 45, 108, 105, 110, 101]⟩ : ByteArray), .string (⟨#[12]⟩ : ByteArray), .string (⟨#[99, 108, 101, 97, 114, 45, 115, 99, 114, 101, 101, 110]⟩ : ByteArray), .string (⟨#[14]⟩ : ByteArray), .string (⟨#[110, 101, 120, 116, 45, 104, 105, 115, 116, 111, 114, 121]⟩ : ByteArray), .string (⟨#[16]⟩ : ByteArray), .string (⟨#[112, 114, 101, 118, 105, 111, 117, 115, 45, 104, 105, 115, 116, 111, 114, 121]⟩ : ByteArray), .string (⟨#[17]⟩ : ByteArray), .string (⟨#[113, 117, 111, 116, 101, 100, 45, 105, 110, 115, 101, 114, 116]⟩ : ByteArray), .string (⟨#[22]⟩ : ByteArray), .string (⟨#[113, 117, 111, 116, 101, 100, 45, 105, 110, 115, 101, 114, 116]⟩ : ByteArray), .string (⟨#[18]⟩ : ByteArray), .string (⟨#[114, 101, 118, 101, 114, 115, 101, 45, 115, 101, 97, 114, 99, 104, 45, 104, 105, 115, 116, 111, 114, 121]⟩ : ByteArray), .string (⟨#[19]⟩ : ByteArray), .string (⟨#[102, 111, 114, 119, 97, 114, 100, 45, 115, 101, 97, 114, 99, 104, 45, 104, 105, 115, 116, 111, 114, 121]⟩ : ByteArray), .string (⟨#[20]⟩ : ByteArray), .string (⟨#[116, 114, 97, 110, 115, 112, 111, 115, 101, 45, 99, 104, 97, 114, 115]⟩ : ByteArray), .string (⟨#[21]⟩ : ByteArray), .string (⟨#[117, 110, 105, 120, 45, 108, 105, 110, 101, 45, 100, 105, 115, 99, 97, 114, 100]⟩ : ByteArray), .string (⟨#[23]⟩ : ByteArray), .string (⟨#[98, 97, 99, 107, 119, 97, 114, 100, 45, 107, 105, 108, 108, 45, 119, 111, 114, 100]⟩ : ByteArray), .string (⟨#[25]⟩ : ByteArray), .string (⟨#[121, 97, 110, 107]⟩ : ByteArray), .string (⟨#[31]⟩ : ByteArray), .string (⟨#[117, 110, 100, 111]⟩ : ByteArray), .string (⟨#[27, 98]⟩ : ByteArray), .string (⟨#[98, 97, 99, 107, 119, 97, 114, 100, 45, 119, 111, 114, 100]⟩ : ByteArray), .string (⟨#[27, 99]⟩ : ByteArray), .string (⟨#[99, 97, 112, 105, 116, 97, 108, 105, 122, 101, 45, 119, 111, 114, 100]⟩ : ByteArray), .string (⟨#[27, 100]⟩ : ByteArray), .string (⟨#[107, 105, 108, 108, 45, 119, 111, 114, 100]⟩ : ByteArray), .string (⟨#[27, 102]⟩ : ByteArray), .string (⟨#[102, 111, 114, 119, 97, 114, 100, 45, 119, 111, 114, 100]⟩ : ByteArray), .string (⟨#[27, 108]⟩ : ByteArray), .string (⟨#[100, 111, 119, 110, 99, 97, 115, 101, 45, 119, 111, 114, 100]⟩ : ByteArray), .string (⟨#[27, 116]⟩ : ByteArray), .string (⟨#[116, 114, 97, 110, 115, 112, 111, 115, 101, 45, 119, 111, 114, 100, 115]⟩ : ByteArray), .string (⟨#[27, 117]⟩ : ByteArray), .string (⟨#[117, 112, 99, 97, 115, 101, 45, 119, 111, 114, 100]⟩ : ByteArray), .string (⟨#[27, 121]⟩ : ByteArray), .string (⟨#[121, 97, 110, 107, 45, 112, 111, 112]⟩ : ByteArray), .string (⟨#[27, 60]⟩ : ByteArray), .string (⟨#[98, 101, 103, 105, 110, 110, 105, 110, 103, 45, 111, 102, 45, 104, 105, 115, 116, 111, 114, 121]⟩ : ByteArray), .string (⟨#[27, 62]⟩ : ByteArray), .string (⟨#[101, 110, 100, 45, 111, 102, 45, 104, 105, 115, 116, 111, 114, 121]⟩ : ByteArray), .string (⟨#[27, 127]⟩ : ByteArray), .string (⟨#[98, 97, 99, 107, 119, 97, 114, 100, 45, 107, 105, 108, 108, 45, 119, 111, 114, 100]⟩ : ByteArray), .string (⟨#[27, 48]⟩ : ByteArray), .string (⟨#[100, 105, 103, 105, 116, 45, 97, 114, 103, 117, 109, 101, 110, 116]⟩ : ByteArray), .string (⟨#[27, 49]⟩ : ByteArray), .string (⟨#[100, 105, 103, 105, 116, 45, 97, 114, 103, 117, 109, 101, 110, 116]⟩ : ByteArray), .string (⟨#[27, 50]⟩ : ByteArray), .string (⟨#[100, 105, 103, 105, 116, 45, 97, 114, 103, 117, 109, 101, 110, 116]⟩ : ByteArray), .string (⟨#[27, 51]⟩ : ByteArray), .string (⟨#[100, 105, 103, 105, 116, 45, 97, 114, 103, 117, 109, 101, 110, 116]⟩ : ByteArray), .string (⟨#[27, 52]⟩ : ByteArray), .string (⟨#[100, 105, 103, 105, 116, 45, 97, 114, 103, 117, 109, 101, 110, 116]⟩ : ByteArray), .string (⟨#[27, 53]⟩ : ByteArray), .string (⟨#[100, 105, 103, 105, 116, 45, 97, 114, 103, 117, 109, 101, 110, 116]⟩ : ByteArray), .string (⟨#[27, 54]⟩ : ByteArray), .string (⟨#[100, 105, 103, 105, 116, 45, 97, 114, 103, 117, 109, 101, 110, 116]⟩ : ByteArray), .string (⟨#[27, 55]⟩ : ByteArray), .string (⟨#[100, 105, 103, 105, 116, 45, 97, 114, 103, 117, 109, 101, 110, 116]⟩ : ByteArray), .string (⟨#[27, 56]⟩ : ByteArray), .string (⟨#[100, 105, 103, 105, 116, 45, 97, 114, 103, 117, 109, 101, 110, 116]⟩ : ByteArray), .string (⟨#[27, 57]⟩ : ByteArray), .string (⟨#[100, 105, 103, 105, 116, 45, 97, 114, 103, 117, 109, 101, 110, 116]⟩ : ByteArray), .string (⟨#[27, 45]⟩ : ByteArray), .string (⟨#[100, 105, 103, 105, 116, 45, 97, 114, 103, 117, 109, 101, 110, 116]⟩ : ByteArray)]) (ok := fun _ => True) (okp := fun _ => True) ?hr ?hp (fun _ hk => hk) trivial (Below.refl _ _) (Nat.le_refl _) (by simp) ?_; (case hd => rfl); (case hg => rfl); (case hr => first | (go_simp; done) | (go_simp; rfl)); (case hp => exact (Reps.one (show Kd.M Kd.string _ _ _ (⟨#[1]⟩ : ByteArray) [.string (⟨#[1]⟩ : ByteArray)] from rfl) (Reps.one (show Kd.M Kd.string _ _ _ (⟨#[98, 101, 103, 105, 110, 110, 105, 110, 103, 45, 111, 102, 45, 108, 105, 110, 101]⟩ : ByteArray) [.string (⟨#[98, 101, 103, 105, 110, 110, 105, 110, 103, 45, 111, 102, 45, 108, 105, 110, 101]⟩ : ByteArray)] from rfl) (Reps.one (show Kd.M Kd.string _ _ _ (⟨#[2]⟩ : ByteArray) [.string (⟨#[2]⟩ : ByteArray)] from rfl) (Reps.one (show Kd.M Kd.string _ _ _ (⟨#[98, 97, 99, 107, 119, 97, 114, 100, 45, 99, 104, 97, 114]⟩ : ByteArray) [.string (⟨#[98, 97, 99, 107, 119, 97, 114, 100, 45, 99, 104, 97, 114]⟩ : ByteArray)] from rfl) (Reps.one (show Kd.M Kd.string _ _ _ (⟨#[4]⟩ : ByteArray) [.string (⟨#[4]⟩ : ByteArray)] from rfl) (Reps.one (show Kd.M Kd.string _ _ _ (⟨#[100, 101, 108, 101, 116, 101, 45, 99, 104, 97, 114]⟩ : ByteArray) [.string (⟨#[100, 101, 108, 101, 116, 101, 45, 99, 104, 97, 114]⟩ : ByteArray)] from rfl) (Reps.one (show Kd.M Kd.string _ _ _ (⟨#[5]⟩ : ByteArray) [.string (⟨#[5]⟩ : ByteArray)] from rfl) (Reps.one (show Kd.M Kd.string _ _ _ (⟨#[101, 110, 100, 45, 111, 102, 45, 108, 105, 110, 101]⟩ : ByteArray) [.string (⟨#[101, 110, 100, 45, 111, 102, 45, 108, 105, 110, 101]⟩ : ByteArray)] from rfl) (Reps.one (show Kd.M Kd.string _ _ _ (⟨#[6]⟩ : ByteArray) [.string (⟨#[6]⟩ : ByteArray)] from rfl) (Reps.one (show Kd.M Kd.string _ _ _ (⟨#[102, 111, 114, 119, 97, 114, 100, 45, 99, 104, 97, 114]⟩ : ByteArray) [.string (⟨#[102, 111, 114, 119, 97, 114, 100, 45, 99, 104, 97, 114]⟩ : ByteArray)] from rfl) (Reps.one (show Kd.M Kd.string _ _ _ (⟨#[7]⟩ : ByteArray) [.string (⟨#[7]⟩ : ByteArray)] from rfl) (Reps.one (show Kd.M Kd.string _ _ _ (⟨#[97, 98, 111, 114, 116]⟩ : ByteArray) [.string (⟨#[97, 98, 111, 114, 116]⟩ : ByteArray)] from rfl) (Reps.one (show Kd.M Kd.string _ _ _ (⟨#[8]⟩ : ByteArray) [.string (⟨#[8]⟩ : ByteArray)] from rfl) (Reps.one (show Kd.M Kd.string _ _ _ (⟨#[98, 97, 99, 107, 119, 97, 114, 100, 45, 100, 101, 108, 101, 116, 101, 45, 99, 104, 97, 114]⟩ : ByteArray) [.string (⟨#[98, 97, 99, 107, 119, 97, 114, 100, 45, 100, 101, 108, 101, 116, 101, 45, 99, 104, 97, 114]⟩ : ByteArray)] from rfl) (Reps.one (show Kd.M Kd.string _ _ _ (⟨#[127]⟩ : ByteArray) [.string (⟨#[127]⟩ : ByteArray)] from rfl) (Reps.one (show Kd.M Kd.string _ _ _ (⟨#[98, 97, 99, 107, 119, 97, 114, 100, 45, 100, 101, 108, 101, 116, 101, 45, 99, 104, 97, 114]⟩ : ByteArray) [.string (⟨#[98, 97, 99, 107, 119, 97, 114, 100, 45, 100, 101, 108, 101, 116, 101, 45, 99, 104, 97, 114]⟩ : ByteArray)] from rfl) (Reps.one (show Kd.M Kd.string _ _ _ (⟨#[10]⟩ : ByteArray) [.string (⟨#[10]⟩ : ByteArray)] from rfl) (Reps.one (show Kd.M Kd.string _ _ _ (⟨#[97, 99, 99, 101, 112, 116, 45, 108, 105, 110, 101]⟩ : ByteArray) [.string (⟨#[97, 99, 99, 101, 112, 116, 45, 108, 105, 110, 101]⟩ : ByteArray)] from rfl) (Reps.one (show Kd.M Kd.string _ _ _ (⟨#[13]⟩ : ByteArray) [.string (⟨#[13]⟩ : ByteArray)] from rfl) (Reps.one (show Kd.M Kd.string _ _ _ (⟨#[97, 99, 99, 101, 112, 116, 45, 108, 105, 110, 101]⟩ : ByteArray) [.string (⟨#[97, 99, 99, 101, 112, 116, 45, 108, 105, 110, 101]⟩ : ByteArray)] from rfl) (Reps.one (show Kd.M Kd.string _ _ _ (⟨#[11]⟩ : ByteArray) [.string (⟨#[11]⟩ : ByteArray)] from rfl) (Reps.one (show Kd.M Kd.string _ _ _ (⟨#[107, 105, 108, 108, 45, 108, 105, 110, 101]⟩ : ByteArray) [.string (⟨#[107, 105, 108, 108, 45, 108, 105, 110, 101]⟩ : ByteArray)] from rfl) (Reps.one (show Kd.M Kd.string _ _ _ (⟨#[12]⟩ : ByteArray) [.string (⟨#[12]⟩ : ByteArray)] from rfl) (Reps.one (show Kd.M Kd.string _ _ _ (⟨#[99, 108, 101, 97, 114, 45, 115, 99, 114, 101, 101, 110]⟩ : ByteArray) [.string (⟨#[99, 108, 101, 97, 114, 45, 115, 99, 114, 101, 101, 110]⟩ : ByteArray)] from rfl) (Reps.one (show Kd.M Kd.string _ _ _ (⟨#[14]⟩ : ByteArray) [.string (⟨#[14]⟩ : ByteArray)] from rfl) (Reps.one (show Kd.M Kd.string _ _ _ (⟨#[110, 101, 120, 116, 45, 104, 105, 115, 116, 111, 114, 121]⟩ : ByteArray) [.string (⟨#[110, 101, 120, 116, 45, 104, 105, 115, 116, 111, 114, 121]⟩ : ByteArray)] from rfl) (Reps.one (show Kd.M Kd.string _ _ _ (⟨#[16]⟩ : ByteArray) [.string (⟨#[16]⟩ : ByteArray)] from rfl) (Reps.one (show Kd.M Kd.string _ _ _ (⟨#[112, 114, 101, 118, 105, 111, 117, 115, 45, 104, 105, 115, 116, 111, 114, 121]⟩ : ByteArray) [.string (⟨#[112, 114, 101, 118, 105, 111, 117, 115, 45, 104, 105, 115, 116, 111, 114, 121]⟩ : ByteArray)] from rfl) (Reps.one (show Kd.M Kd.string _ _ _ (⟨#[17]⟩ : ByteArray) [.string (⟨#[17]⟩ : ByteArray)] from rfl) (Reps.one (show Kd.M Kd.string _ _ _ (⟨#[113, 117, 111, 116, 101, 100, 45, 105, 110, 115, 101, 114, 116]⟩ : ByteArray) [.string (⟨#[113, 117, 111, 116, 101, 100, 45, 105, 110, 115, 101, 114, 116]⟩ : ByteArray)] from rfl) (Reps.one (show Kd.M Kd.string _ _ _ (⟨#[22]⟩ : ByteArray) [.string (⟨#[22]⟩ : ByteArray)] from rfl) (Reps.one (show Kd.M Kd.string _ _ _ (⟨#[113, 117, 111, 116, 101, 100, 45, 105, 110, 115, 101, 114, 116]⟩ : ByteArray) [.string (⟨#[113, 117, 111, 116, 101, 100, 45, 105, 110, 115, 101, 114, 116]⟩ : ByteArray)] from rfl) (Reps.one (show Kd.M Kd.string _ _ _ (⟨#[18]⟩ : ByteArray) [.string (⟨#[18]⟩ : ByteArray)] from rfl) (Reps.one (show Kd.M Kd.string _ _ _ (⟨#[114, 101, 118, 101, 114, 115, 101, 45, 115, 101, 97, 114, 99, 104, 45, 104, 105, 115, 116, 111, 114, 121]⟩ : ByteArray) [.string (⟨#[114, 101, 118, 101, 114, 115, 101, 45, 115, 101, 97, 114, 99, 104, 45, 104, 105, 115, 116, 111, 114, 121]⟩ : ByteArray)] from rfl) (Reps.one (show Kd.M Kd.string _ _ _ (⟨#[19]⟩ : ByteArray) [.string (⟨#[19]⟩ : ByteArray)] from rfl) (Reps.one (show Kd.M Kd.string _ _ _ (⟨#[102, 111, 114, 119, 97, 114, 100, 45, 115, 101, 97, 114, 99, 104, 45, 104, 105, 115, 116, 111, 114, 121]⟩ : ByteArray) [.string (⟨#[102, 111, 114, 119, 97, 114, 100, 45, 115, 101, 97, 114, 99, 104, 45, 104, 105, 115, 116, 111, 114, 121]⟩ : ByteArray)] from rfl) (Reps.one (show Kd.M Kd.string _ _ _ (⟨#[20]⟩ : ByteArray) [.string (⟨#[20]⟩ : ByteArray)] from rfl) (Reps.one (show Kd.M Kd.string _ _ _ (⟨#[116, 114, 97, 110, 115, 112, 111, 115, 101, 45, 99, 104, 97, 114, 115]⟩ : ByteArray) [.string (⟨#[116, 114, 97, 110, 115, 112, 111, 115, 101, 45, 99, 104, 97, 114, 115]⟩ : ByteArray)] from rfl) (Reps.one (show Kd.M Kd.string _ _ _ (⟨#[21]⟩ : ByteArray) [.string (⟨#[21]⟩ : ByteArray)] from rfl) (Reps.one (show Kd.M Kd.string _ _ _ (⟨#[117, 110, 105, 120, 45, 108, 105, 110, 101, 45, 100, 105, 115, 99, 97, 114, 100]⟩ : ByteArray) [.string (⟨#[117, 110, 105, 120, 45, 108, 105, 110, 101, 45, 100, 105, 115, 99, 97, 114, 100]⟩ : ByteArray)] from rfl) (Reps.one (show Kd.M Kd.string _ _ _ (⟨#[23]⟩ : ByteArray) [.string (⟨#[23]⟩ : ByteArray)] from rfl) (Reps.one (show Kd.M Kd.string _ _ _ (⟨#[98, 97, 99, 107, 119, 97, 114, 100, 45, 107, 105, 108, 108, 45, 119, 111, 114, 100]⟩ : ByteArray) [.string (⟨#[98, 97, 99, 107, 119, 97, 114, 100, 45, 107, 105, 108, 108, 45, 119, 111, 114, 100]⟩ : ByteArray)] from rfl) (Reps.one (show Kd.M Kd.string _ _ _ (⟨#[25]⟩ : ByteArray) [.string (⟨#[25]⟩ : ByteArray)] from rfl) (Reps.one (show Kd.M Kd.string _ _ _ (⟨#[121, 97, 110, 107]⟩ : ByteArray) [.string (⟨#[121, 97, 110, 107]⟩ : ByteArray)] from rfl) (Reps.one (show Kd.M Kd.string _ _ _ (⟨#[31]⟩ : ByteArray) [.string (⟨#[31]⟩ : ByteArray)] from rfl) (Reps.one (show Kd.M Kd.string _ _ _ (⟨#[117, 110, 100, 111]⟩ : ByteArray) [.string (⟨#[117, 110, 100, 111]⟩ : ByteArray)] from rfl) (Reps.one (show Kd.M Kd.string _ _ _ (⟨#[27, 98]⟩ : ByteArray) [.string (⟨#[27, 98]⟩ : ByteArray)] from rfl) (Reps.one (show Kd.M Kd.string _ _ _ (⟨#[98, 97, 99, 107, 119, 97, 114, 100, 45, 119, 111, 114, 100]⟩ : ByteArray) [.string (⟨#[98, 97, 99, 107, 119, 97, 114, 100, 45, 119, 111, 114, 100]⟩ : ByteArray)] from rfl) (Reps.one (show Kd.M Kd.string _ _ _ (⟨#[27, 99]⟩ : ByteArray) [.string (⟨#[27, 99]⟩ : ByteArray)] from rfl) (Reps.one (show Kd.M Kd.string _ _ _ (⟨#[99, 97, 112, 105, 116, 97, 108, 105, 122, 101, 45, 119, 111, 114, 100]⟩ : ByteArray) [.string (⟨#[99, 97, 112, 105, 116, 97, 108, 105, 122, 101, 45, 119, 111, 114, 100]⟩ : ByteArray)] from rfl) (Reps.one (show Kd.M Kd.string _ _ _ (⟨#[27, 100]⟩ : ByteArray) [.string (⟨#[27, 100]⟩ : ByteArray)] from rfl) (Reps.one (show Kd.M Kd.string _ _ _ (⟨#[107, 105, 108, 108, 45, 119, 111, 114, 100]⟩ : ByteArray) [.string (⟨#[107, 105, 108, 108, 45, 119, 111, 114, 100]⟩ : ByteArray)] from rfl) (Reps.one (show Kd.M Kd.string _ _ _ (⟨#[27, 102]⟩ : ByteArray) [.string (⟨#[27, 102]⟩ : ByteArray)] from rfl) (Reps.one (show Kd.M Kd.string _ _ _ (⟨#[102, 111, 114, 119, 97, 114, 100, 45, 119, 111, 114, 100]⟩ : ByteArray) [.string (⟨#[102, 111, 114, 119, 97, 114, 100, 45, 119, 111, 114, 100]⟩ : ByteArray)] from rfl) (Reps.one (show Kd.M Kd.string _ _ _ (⟨#[27, 108]⟩ : ByteArray) [.string (⟨#[27, 108]⟩ : ByteArray)] from rfl) (Reps.one (show Kd.M Kd.string _ _ _ (⟨#[100, 111, 119, 110, 99, 97, 115, 101, 45, 119, 111, 114, 100]⟩ : ByteArray) [.string (⟨#[100, 111, 119, 110, 99, 97, 115, 101, 45, 119, 111, 114, 100]⟩ : ByteArray)] from rfl) (Reps.one (show Kd.M Kd.string _ _ _ (⟨#[27, 116]⟩ : ByteArray) [.string (⟨#[27, 116]⟩ : ByteArray)] from rfl) (Reps.one (show Kd.M Kd.string _ _ _ (⟨#[116, 114, 97, 110, 115, 112, 111, 115, 101, 45, 119, 111, 114, 100, 115]⟩ : ByteArray) [.string (⟨#[116, 114, 97, 110, 115, 112, 111, 115, 101, 45, 119, 111, 114, 100, 115]⟩ : ByteArray)] from rfl) (Reps.one (show Kd.M Kd.string _ _ _ (⟨#[27, 117]⟩ : ByteArray) [.string (⟨#[27, 117]⟩ : ByteArray)] from rfl) (Reps.one (show Kd.M Kd.string _ _ _ (⟨#[117, 112, 99, 97, 115, 101, 45, 119, 111, 114, 100]⟩ : ByteArray) [.string (⟨#[117, 112, 99, 97, 115, 101, 45, 119, 111, 114, 100]⟩ : ByteArray)] from rfl) (Reps.one (show Kd.M Kd.string _ _ _ (⟨#[27, 121]⟩ : ByteArray) [.string (⟨#[27, 121]⟩ : ByteArray)] from rfl) (Reps.one (show Kd.M Kd.string _ _ _ (⟨#[121, 97, 110, 107, 45, 112, 111, 112]⟩ : ByteArray) [.string (⟨#[121, 97, 110, 107, 45, 112, 111, 112]⟩ : ByteArray)] from rfl) (Reps.one (show Kd.M Kd.string _ _ _ (⟨#[27, 60]⟩ : ByteArray) [.string (⟨#[27, 60]⟩ : ByteArray)] from rfl) (Reps.one (show Kd.M Kd.string _ _ _ (⟨#[98, 101, 103, 105, 110, 110, 105, 110, 103, 45, 111, 102, 45, 104, 105, 115, 116, 111, 114, 121]⟩ : ByteArray) [.string (⟨#[98, 101, 103, 105, 110, 110, 105, 110, 103, 45, 111, 102, 45, 104, 105, 115, 116, 111, 114, 121]⟩ : ByteArray)] from rfl) (Reps.one (show Kd.M Kd.string _ _ _ (⟨#[27, 62]⟩ : ByteArray) [.string (⟨#[27, 62]⟩ : ByteArray)] from rfl) (Reps.one (show Kd.M Kd.string _ _ _ (⟨#[101, 110, 100, 45, 111, 102, 45, 104, 105, 115, 116, 111, 114, 121]⟩ : ByteArray) [.string (⟨#[101, 110, 100, 45, 111, 102, 45, 104, 105, 115, 116, 111, 114, 121]⟩ : ByteArray)] from rfl) (Reps.one (show Kd.M Kd.string _ _ _ (⟨#[27, 127]⟩ : ByteArray) [.string (⟨#[27, 127]⟩ : ByteArray)] from rfl) (Reps.one (show Kd.M Kd.string _ _ _ (⟨#[98, 97, 99, 107, 119, 97, 114, 100, 45, 107, 105, 108, 108, 45, 119, 111, 114, 100]⟩ : ByteArray) [.string (⟨#[98, 97, 99, 107, 119, 97, 114, 100, 45, 107, 105, 108, 108, 45, 119, 111, 114, 100]⟩ : ByteArray)] from rfl) (Reps.one (show Kd.M Kd.string _ _ _ (⟨#[27, 48]⟩ : ByteArray) [.string (⟨#[27, 48]⟩ : ByteArray)] from rfl) (Reps.one (show Kd.M Kd.string _ _ _ (⟨#[100, 105, 103, 105, 116, 45, 97, 114, 103, 117, 109, 101, 110, 116]⟩ : ByteArray) [.string (⟨#[100, 105, 103, 105, 116, 45, 97, 114, 103, 117, 109, 101, 110, 116]⟩ : ByteArray)] from rfl) (Reps.one (show Kd.M Kd.string _ _ _ (⟨#[27, 49]⟩ : ByteArray) [.string (⟨#[27, 49]⟩ : ByteArray)] from rfl) (Reps.one (show Kd.M Kd.string _ _ _ (⟨#[100, 105, 103, 105, 116, 45, 97, 114, 103, 117, 109, 101, 110, 116]⟩ : ByteArray) [.string (⟨#[100, 105, 103, 105, 116, 45, 97, 114, 103, 117, 109, 101, 110, 116]⟩ : ByteArray)] from rfl) (Reps.one (show Kd.M Kd.string _ _ _ (⟨#[27, 50]⟩ : ByteArray) [.string (⟨#[27, 50]⟩ : ByteArray)] from rfl) (Reps.one (show Kd.M Kd.string _ _ _ (⟨#[100, 105, 103, 105, 116, 45, 97, 114, 103, 117, 109, 101, 110, 116]⟩ : ByteArray) [.string (⟨#[100, 105, 103, 105, 116, 45, 97, 114, 103, 117, 109, 101, 110, 116]⟩ : ByteArray)] from rfl) (Reps.one (show Kd.M Kd.string _ _ _ (⟨#[27, 51]⟩ : ByteArray) [.string (⟨#[27, 51]⟩ : ByteArray)] from rfl) (Reps.one (show Kd.M Kd.string _ _ _ (⟨#[100, 105, 103, 105, 116, 45, 97, 114, 103, 117, 109, 101, 110, 116]⟩ : ByteArray) [.string (⟨#[100, 105, 103, 105, 116, 45, 97, 114, 103, 117, 109, 101, 110, 116]⟩ : ByteArray)] from rfl) (Reps.one (show Kd.M Kd.string _ _ _ (⟨#[27, 52]⟩ : ByteArray) [.string (⟨#[27, 52]⟩ : ByteArray)] from rfl) (Reps.one (show Kd.M Kd.string _ _ _ (⟨#[100, 105, 103, 105, 116, 45, 97, 114, 103, 117, 109, 101, 110, 116]⟩ : ByteArray) [.string (⟨#[100, 105, 103, 105, 116, 45, 97, 114, 103, 117, 109, 101, 110, 116]⟩ : ByteArray)] from rfl) (Reps.one (show Kd.M Kd.string _ _ _ (⟨#[27, 53]⟩ : ByteArray) [.string (⟨#[27, 53]⟩ : ByteArray)] from rfl) (Reps.one (show Kd.M Kd.string _ _ _ (⟨#[100, 105, 103, 105, 116, 45, 97, 114, 103, 117, 109, 101, 110, 116]⟩ : ByteArray) [.string (⟨#[100, 105, 103, 105, 116, 45, 97, 114, 103, 117, 109, 101, 110, 116]⟩ : ByteArray)] from rfl) (Reps.one (show Kd.M Kd.string _ _ _ (⟨#[27, 54]⟩ : ByteArray) [.string (⟨#[27, 54]⟩ : ByteArray)] from rfl) (Reps.one (show Kd.M Kd.string _ _ _ (⟨#[100, 105, 103, 105, 116, 45, 97, 114, 103, 117, 109, 101, 110, 116]⟩ : ByteArray) [.string (⟨#[100, 105, 103, 105, 116, 45, 97, 114, 103, 117, 109, 101, 110, 116]⟩ : ByteArray)] from rfl) (Reps.one (show Kd.M Kd.string _ _ _ (⟨#[27, 55]⟩ : ByteArray) [.string (⟨#[27, 55]⟩ : ByteArray)] from rfl) (Reps.one (show Kd.M Kd.string _ _ _ (⟨#[100, 105, 103, 105, 116, 45, 97, 114, 103, 117, 109, 101, 110, 116]⟩ : ByteArray) [.string (⟨#[100, 105, 103, 105, 116, 45, 97, 114, 103, 117, 109, 101, 110, 116]⟩ : ByteArray)] from rfl) (Reps.one (show Kd.M Kd.string _ _ _ (⟨#[27, 56]⟩ : ByteArray) [.string (⟨#[27, 56]⟩ : ByteArray)] from rfl) (Reps.one (show Kd.M Kd.string _ _ _ (⟨#[100, 105, 103, 105, 116, 45, 97, 114, 103, 117, 109, 101, 110, 116]⟩ : ByteArray) [.string (⟨#[100, 105, 103, 105, 116, 45, 97, 114, 103, 117, 109, 101, 110, 116]⟩ : ByteArray)] from rfl) (Reps.one (show Kd.M Kd.string _ _ _ (⟨#[27, 57]⟩ : ByteArray) [.string (⟨#[27, 57]⟩ : ByteArray)] from rfl) (Reps.one (show Kd.M Kd.string _ _ _ (⟨#[100, 105, 103, 105, 116, 45, 97, 114, 103, 117, 109, 101, 110, 116]⟩ : ByteArray) [.string (⟨#[100, 105, 103, 105, 116, 45, 97, 114, 103, 117, 109, 101, 110, 116]⟩ : ByteArray)] from rfl) (Reps.one (show Kd.M Kd.string _ _ _ (⟨#[27, 45]⟩ : ByteArray) [.string (⟨#[27, 45]⟩ : ByteArray)] from rfl) (Reps.one (show Kd.M Kd.string _ _ _ (⟨#[100, 105, 103, 105, 116, 45, 97, 114, 103, 117, 109, 101, 110, 116]⟩ : ByteArray) [.string (⟨#[100, 105, 103, 105, 116, 45, 97, 114, 103, 117, 109, 101, 110, 116]⟩ : ByteArray)] from rfl) (Reps.none _ _)))))))))))))))))))))))))))))))))))))))))))))))))))))))))))))))))))))))))))))))))))))))))))); intro v209 w6 ho7 hb hg_ hnew_; clear hg_ hnew_; (first | rw [← Ny208.out] at ho7 | (simp only [Int.reduceToNat] at ho7; rw [← Ny208.out] at ho7)); have n0_ := Aside0.mk (Kd.R_lower (Kd.R_newM (M := fun k_ => (w.heap.size ≤ k_)) ho7 (below_size (by repeat (first | (with_reducible first | exact HB.out | apply below_alloc | apply pw_below_drewN | apply below_drew1) | exact HB.out))) (fun k_ h_ => h_)) (below_size (by repeat (first | (with_reducible first | exact HB.out | apply below_alloc | apply pw_below_drewN | apply below_drew1) | exact HB.out)))); have n1_ := Aside0.mk (below_step (by repeat (first | (with_reducible first | exact HB.out | apply below_alloc | apply pw_below_drewN | apply below_drew1) | exact HB.out)) hb); clear HB; have HO210 := n0_; have HB := n1_; clear n0_ n1_; clear hb ho7; obtain ⟨Ao8, co8, eo8⟩ := Kd.R_slice HO210.out; subst eo8) | ((with_reducible refine gate_callee (f := 59) rfl ?_); refine goesL_ (some 10) rfl rfl Try.func59 (by kernel_rfl) rfl #[.slice Ao8 y208.length co8] rfl (by (try simp only [List.map_toArray, List.map_cons, List.map_nil]); first | done | rfl | (simp only [List.length_drop, List.length_take]; rfl)) ?_; (with_reducible refine (repriseref17_binds.calls k _ _ y208 t211 _ ?side1 ?side2 A3.out).mono ?_); (case side1 => repeat (first | exact (Kd.R_reads' HO210.out).2.2 | (with_reducible refine Kd.C_alloc ?_ _) | (with_reducible refine Kd.C_drewN ?_ _) | (with_reducible refine Kd.C_drew ?_))); (case side2 => exact (Kd.R_reads' HO210.out).2.1); rintro e w9 ⟨v212, rfl, ho0, hb⟩; refine ⟨_, rfl, ?_⟩; have n0_ := Aside0.mk (Kd.R_below (by (with_reducible repeat (first | apply Kd.R_alloc | apply Kd.R_drewN | apply Kd.R_drew)); exact HO210.out) hb); have n1_ := Aside0.mk (Kd.N_lower (Kd.N_mono (ok' := fun k_ => (w.heap.size ≤ k_) ∧ some k_ ≠ (.slice Ao8 y208.length co8 : Value).ownBlock) ho0 (fun k_ hk_ => ⟨(Nat.le_trans (below_size (by repeat (first | (with_reducible first | exact HB.out | apply below_alloc | apply pw_below_drewN | apply below_drew1) | exact HB.out))) hk_), (Kd.fresh' (Kd.R_lt (by (with_reducible repeat (first | apply Kd.R_alloc | apply Kd.R_drewN | apply Kd.R_drew)); exact HO210.out)) k_ hk_)⟩)) (below_size (by repeat (first | (with_reducible first | exact HB.out | apply below_alloc | apply pw_below_drewN | apply below_drew1) | exact HB.out)))); have n2_ := Aside0.mk (below_step (by repeat (first | (with_reducible first | exact HB.out | apply below_alloc | apply pw_below_drewN | apply below_drew1) | exact HB.out)) hb); clear HO210; clear HB; have HO210 := n0_; have HO213 := n1_; have HB := n2_; clear n0_ n1_ n2_; (try clear hb); (try clear hb2); (try clear hk); (try clear hi); (try clear ho0)) | ((with_reducible refine gate_callee (f := 60) rfl ?_); refine goesL_ (some 12) rfl rfl Try.func60 (by kernel_rfl) rfl #[] rfl (by (try simp only [List.map_toArray, List.map_cons, List.map_nil]); first | done | rfl | (simp only [List.length_drop, List.length_take]; rfl)) ?_; (with_reducible refine (repriseref17_arrows.calls k  t214 _ A4.out).mono ?_); rintro e w10 ⟨v215, rfl, ho0, hb⟩; refine ⟨_, rfl, ?_⟩; have n0_ := Aside0.mk (Kd.R_below (by (with_reducible repeat (first | apply Kd.R_alloc | apply Kd.R_drewN | apply Kd.R_drew)); exact HO210.out) hb); have n1_ := Aside0.mk (Kd.N_elder' (by (with_reducible repeat (first | apply Kd.N_alloc | apply Kd.N_drewN | apply Kd.N_drew)); exact HO213.out) (Kd.N_base ho0) hb); have n2_ := Aside0.mk (Kd.N_lower (Kd.N_mono (ok' := fun k_ => (w.heap.size ≤ k_) ∧ some k_ ≠ (.slice Ao8 y208.length co8 : Value).ownBlock ∧ some k_ ≠ (v212 : Value).ownBlock) ho0 (fun k_ hk_ => ⟨(Nat.le_trans (below_size (by repeat (first | (with_reducible first | exact HB.out | apply below_alloc | apply pw_below_drewN | apply below_drew1) | exact HB.out))) hk_), (Kd.fresh' (Kd.R_lt (by (with_reducible repeat (first | apply Kd.R_alloc | apply Kd.R_drewN | apply Kd.R_drew)); exact HO210.out)) k_ hk_), (Kd.fresh' (Kd.N_lt (by (with_reducible repeat (first | apply Kd.N_alloc | apply Kd.N_drewN | apply Kd.N_drew)); exact HO213.out)) k_ hk_)⟩)) (below_size (by repeat (first | (with_reducible first | exact HB.out | apply below_alloc | apply pw_below_drewN | apply below_drew1) | exact HB.out)))); have n3_ := Aside0.mk (below_step (by repeat (first | (with_reducible first | exact HB.out | apply below_alloc | apply pw_below_drewN | apply below_drew1) | exact HB.out)) hb); clear HO210; clear HO213; clear HB; have HO210 := n0_; have HO213 := n1_; have HO216 := n2_; have HB := n3_; clear n0_ n1_ n2_ n3_; (try clear hb); (try clear hb2); (try clear hk); (try clear hi); (try clear ho0); obtain ⟨Ao12, co12, eo12⟩ := Kd.N_slice HO216.out; subst eo12) | ((with_reducible refine gate_builtin (b := .append) (xs := #[.tmp 11, .tmp 12]) rfl ?_); at_builtin; refine Kd.N_append_rows k91 (w0 := w) w.heap.size rfl (.tmp 11) (.tmp 12) 88 91 (.agg #[(.slice none 0 0), (.string ⟨#[]⟩)]) 40 rfl Try.underlying88 info91 rfl (by decide) (by omega) v212 t211 t214 _ _ _ (fun k_ => (w.heap.size ≤ k_) ∧ some k_ ≠ (.slice Ao8 y208.length co8 : Value).ownBlock) (fun k_ => ((fun k_ => (w.heap.size ≤ k_) ∧ some k_ ≠ (.slice Ao8 y208.length co8 : Value).ownBlock)) k_ ∧ some k_ ≠ (v212 : Value).ownBlock) rfl rfl ?aO ?aR (fun _ hk => hk) ?aF ?aB ?aS ?aL ?_; (case aR => exact (by skip; exact Kd.N_F (Kd.N_mono (ok' := (fun k_ => ((fun k_ => (w.heap.size ≤ k_) ∧ some k_ ≠ (.slice Ao8 y208.length co8 : Value).ownBlock)) k_ ∧ some k_ ≠ (v212 : Value).ownBlock)) (HO216.out) (fun k_ hk => ⟨⟨hk.1, hk.2.1⟩, hk.2.2⟩)))); (case aB => exact (by repeat (first | (with_reducible first | exact HB.out | apply below_alloc | apply pw_below_drewN | apply below_drew1) | exact HB.out))); (case aF => exact (fun k_ hk => ⟨(Nat.le_trans (below_size (by repeat (first | (with_reducible first | exact HB.out | apply below_alloc | apply pw_below_drewN | apply below_drew1) | exact HB.out))) hk), Kd.fresh' (Kd.R_lt (by (with_reducible repeat (first | apply Kd.R_alloc | apply Kd.R_drewN | apply Kd.R_drew)); exact HO210.out)) k_ hk⟩)); (case aO => exact (by (with_reducible repeat (first | apply Kd.N_alloc | apply Kd.N_drewN | apply Kd.N_drew)); exact Kd.N_mono HO213.out (fun _ hk => ⟨hk.1.1, hk.1.2⟩))); (case aS => exact (below_size (by repeat (first | (with_reducible first | exact HB.out | apply below_alloc | apply pw_below_drewN | apply below_drew1) | exact HB.out)))); (case aL => have := LMc5.out; omega); intro v218 w11 ho hb hg hat; rw [← Ny217.out] at ho; have n0_ := Aside0.mk (Kd.R_over' (by (with_reducible repeat (first | apply Kd.R_alloc | apply Kd.R_drewN | apply Kd.R_drew)); exact HO210.out) (Kd.N_typed (by (with_reducible repeat (first | apply Kd.N_alloc | apply Kd.N_drewN | apply Kd.N_drew)); exact HO213.out)) (by decide) hg); have n1_ := Aside0.mk (Kd.N_afterv (ok := (fun k_ => (w.heap.size ≤ k_) ∧ some k_ ≠ (.slice Ao8 y208.length co8 : Value).ownBlock)) (by (with_reducible repeat (first | apply Kd.N_alloc | apply Kd.N_drewN | apply Kd.N_drew)); exact Kd.N_mono HO216.out (fun _ hk => ⟨⟨hk.1, hk.2.1⟩, hk.2.2⟩)) hg hat); have n2_ := Aside0.mk (hb); have n3_ := Aside0.mk (ho); clear HO210; clear HO216; clear HB; clear HO213; have HO210 := n0_; have HO216 := n1_; have HB := n2_; have HO219 := n3_; clear n0_ n1_ n2_ n3_; clear ho hb hg hat))
      go_ret
      exact ⟨_, by first | rfl | (simp [errW_none, errW_some] <;> rfl) | (simp [*, errW_none, errW_some] <;> rfl), by (with_reducible repeat (first | apply Kd.N_alloc | apply Kd.N_drewN | apply Kd.N_drew)); exact Kd.N_mono HO219.out (fun _ hk => hk.1), by repeat (first | (with_reducible first | exact HB.out | apply below_alloc | apply pw_below_drewN | apply below_drew1) | exact HB.out)⟩
    · rw [if_neg c5] at H
      exact absurd H (by simp)
  · rw [if_neg c2] at H
    exact absurd H (by simp)

/-! ### repriseref1_May: function 61 -/
def repriseref1_May.f (a0 : Int) : Option (Bool) := if a0 ≥ 0 then (if a0 ≤ 1114111 then (if a0 < 55296 then (some true) else (some (decide (a0 > 57343)))) else (some false)) else (some false)
set_option maxHeartbeats 8000000 in
set_option maxRecDepth 100000 in
theorem repriseref1_May.calls (a0 : Int) (r : Bool) (w : World) (h : repriseref1_May.f a0 = some r) :
    Calls Try.prog 61 #[.int .i32 a0] w fun e w' => e = .returned (.bool r) ∧ Drawn0 w w' := by
  have H : (if a0 ≥ 0 then (if a0 ≤ 1114111 then (if a0 < 55296 then (some true) else (some (decide (a0 > 57343)))) else (some false)) else (some false)) = some r := h
  clear h
  by_cases c2 : a0 ≥ 0
  · rw [if_pos c2] at H
    have c2b0 : decide (0 ≤ a0) = true := decide_eq_true c2
    clear c2
    by_cases c3 : a0 ≤ 1114111
    · rw [if_pos c3] at H
      have c3b0 : decide (a0 ≤ 1114111) = true := decide_eq_true c3
      clear c3
      by_cases c4 : a0 < 55296
      · rw [if_pos c4] at H
        have c4b0 : decide (a0 < 55296) = true := decide_eq_true c4
        clear c4
        obtain rfl := Option.some.inj H
        go_enter Try.func61, Try.ntmps61
        go_wp2
        go_ret
        exact ⟨by first | rfl | (simp; done) | (simp [*]; done), by repeat (first | exact Drawn0.refl _ | apply Drawn0.step)⟩
      · rw [if_neg c4] at H
        have c4b0 : decide (a0 < 55296) = false := decide_eq_false c4
        clear c4
        obtain rfl := Option.some.inj H
        go_enter Try.func61, Try.ntmps61
        go_wp2
        go_ret
        exact ⟨by first | rfl | (simp; done) | (simp [*]; done), by repeat (first | exact Drawn0.refl _ | apply Drawn0.step)⟩
    · rw [if_neg c3] at H
      have c3b0 : decide (a0 ≤ 1114111) = false := decide_eq_false c3
      clear c3
      obtain rfl := Option.some.inj H
      go_enter Try.func61, Try.ntmps61
      go_wp2
      go_ret
      exact ⟨by first | rfl | (simp; done) | (simp [*]; done), by repeat (first | exact Drawn0.refl _ | apply Drawn0.step)⟩
  · rw [if_neg c2] at H
    have c2b0 : decide (0 ≤ a0) = false := decide_eq_false c2
    clear c2
    obtain rfl := Option.some.inj H
    go_enter Try.func61, Try.ntmps61
    go_wp2
    go_ret
    exact ⟨by first | rfl | (simp; done) | (simp [*]; done), by repeat (first | exact Drawn0.refl _ | apply Drawn0.step)⟩

/-! ### repriseref1_Form: function 52 -/
def repriseref1_Form.j0 : Nat → Int → Option (List Int)
  | 0, _ => none
  | k + 1, x0 => if x0 < 128 then (some (([(x0) % 256] : List Int))) else (if x0 < 2048 then (some (([(Go.bits .or .i32 192 (x0 / 64)) % 256, (Go.bits .or .i32 128 (Go.bits .and .i32 x0 63)) % 256] : List Int))) else (if x0 < 65536 then (some (([(Go.bits .or .i32 224 (x0 / 4096)) % 256, (Go.bits .or .i32 128 (Go.bits .and .i32 (x0 / 64) 63)) % 256, (Go.bits .or .i32 128 (Go.bits .and .i32 x0 63)) % 256] : List Int))) else (some (([(Go.bits .or .i32 240 (x0 / 262144)) % 256, (Go.bits .or .i32 128 (Go.bits .and .i32 (x0 / 4096) 63)) % 256, (Go.bits .or .i32 128 (Go.bits .and .i32 (x0 / 64) 63)) % 256, (Go.bits .or .i32 128 (Go.bits .and .i32 x0 63)) % 256] : List Int)))))
def repriseref1_Form.f (k : Nat) (a0 : Int) : Option (List Int) := (repriseref1_May.f a0).bind fun t253 => (if t253 = true then (repriseref1_Form.j0 k a0) else (repriseref1_Form.j0 k 65533))
theorem repriseref1_Form.mono_l : ∀ k, (∀ y0, LeO (repriseref1_Form.j0 k y0) (repriseref1_Form.j0 (k + 1) y0))
  | 0 => fun _ r h => by simp [repriseref1_Form.j0] at h
  | k + 1 => by
    have ih0 := repriseref1_Form.mono_l k
    · intro y0
      unfold repriseref1_Form.j0
      repeat' first
      | (with_reducible exact ih0 _)
      | (with_reducible exact LeO.refl _)
      | (with_reducible exact LeO.none _)
      | (with_reducible refine LeO.ite ?_ ?_)
      | (with_reducible refine LeO.bind ?_ (fun _ => ?_))
      | exact ih0 _
      | exact LeO.none _
      | refine LeO.ite ?_ ?_
      | refine LeO.bind ?_ (fun _ => ?_)
theorem repriseref1_Form.mono : ∀ a0 k, LeO (repriseref1_Form.f k a0) (repriseref1_Form.f (k + 1) a0) := by
  intro a0 k
  have ih0 := repriseref1_Form.mono_l k
  unfold repriseref1_Form.f
  repeat' first
      | (with_reducible exact ih0 _)
      | (with_reducible exact LeO.refl _)
      | (with_reducible exact LeO.none _)
      | (with_reducible refine LeO.ite ?_ ?_)
      | (with_reducible refine LeO.bind ?_ (fun _ => ?_))
      | exact ih0 _
      | exact LeO.none _
      | refine LeO.ite ?_ ?_
      | refine LeO.bind ?_ (fun _ => ?_)
set_option maxHeartbeats 8000000 in
set_option maxRecDepth 100000 in
theorem repriseref1_Form.calls (k : Nat) (a0 : Int) (r : List Int) (w : World) (h : repriseref1_Form.f k a0 = some r) :
    Calls Try.prog 52 #[.int .i32 a0] w fun e w' => ∃ v0_ : Value, e = .returned (v0_) ∧ Kd.R (Kd.int .u8) 5 w' w.heap.size (fun _ => True) v0_ r ∧ Below w.heap.size w w' := by
  have HB := Aside0.mk (Below.refl w.heap.size w)
  have H : ((repriseref1_May.f a0).bind fun t253 => (if t253 = true then (repriseref1_Form.j0 k a0) else (repriseref1_Form.j0 k 65533))) = some r := h
  clear h
  replace H := Option.bind_eq_some_iff.mp H
  obtain ⟨t253, A20, H⟩ := H
  replace H : (if t253 = true then (repriseref1_Form.j0 k a0) else (repriseref1_Form.j0 k 65533)) = some r := H
  have A2 := Aside0.mk A20
  clear A20
  have HC3 := Aside0.mk H
  clear H
  go_enter Try.func52, Try.ntmps52
  go_upto_if 5 with (first | ((with_reducible refine gate_callee (f := 61) rfl ?_); refine goesL_ (some 4) rfl rfl Try.func61 (by kernel_rfl) rfl #[.int .i32 a0] rfl (by (try simp only [List.map_toArray, List.map_cons, List.map_nil]); first | done | rfl | (simp only [List.length_drop, List.length_take]; rfl)) ?_; (with_reducible refine (repriseref1_May.calls a0 t253 _ A2.out).mono ?_); rintro e w' ⟨rfl, ⟨nd, rfl⟩⟩; refine ⟨_, rfl, ?_⟩))
  (try simp only [Act.put, List.setIfInBounds_toArray, List.set_cons_zero, List.set_cons_succ])
  go_cut [0] (fun v0 wc => ∃ (kq : Nat) (x0_2 : Int), v0 = .int .i32 x0_2 ∧ Aside0 (repriseref1_Form.j0 kq x0_2 = some r) ∧ Aside0 (kq ≤ k) ∧ Aside0 (Below w.heap.size w wc))
  case first =>
    have H := HC3.out
    clear HC3
    by_cases c4 : t253 = true
    · subst c4
      have H1 : (repriseref1_Form.j0 k a0) = some r := by rw [if_pos rfl] at H; exact H
      clear H
      have H := H1
      clear H1
      have H' := Aside0.mk H
      clear H
      go_wp2
      go_meet
      case rel => exact ⟨_, (a0), (by first | rfl | (simp; done) | (simp [*]; done)), H', ⟨by first | omega | exact Nat.le_refl _⟩, ⟨by repeat (first | (with_reducible first | exact HB.out | apply below_alloc | apply pw_below_drewN | apply below_drew1) | exact HB.out)⟩⟩
    · replace c4 := Bool.eq_false_iff.mpr c4
      subst c4
      have H1 : (repriseref1_Form.j0 k 65533) = some r := by rw [if_neg (show ¬ (false = true) by decide)] at H; exact H
      clear H
      have H := H1
      clear H1
      have H' := Aside0.mk H
      clear H
      go_wp2
      go_meet
      case rel => exact ⟨_, (65533), (by first | rfl | (simp; done) | (simp [*]; done)), H', ⟨by first | omega | exact Nat.le_refl _⟩, ⟨by repeat (first | (with_reducible first | exact HB.out | apply below_alloc | apply pw_below_drewN | apply below_drew1) | exact HB.out)⟩⟩
  case rest =>
    clear HC3
    try clear p2
    try clear c4
    obtain ⟨kq, x0_2, rfl, HA, HJ2, HB⟩ := hcut
    cases kq with
    | zero => exact absurd HA.out (by simp [repriseref1_Form.j0])
    | succ kj2 =>
      have H := HA.out
      clear HA
      simp only [repriseref1_Form.j0] at H
      by_cases c5 : x0_2 < 128
      · rw [if_pos c5] at H
        have c5b0 : decide (x0_2 < 128) = true := decide_eq_true c5
        clear c5
        obtain ⟨y254, hy254⟩ : ∃ y_ : List Int, y_ = (([(x0_2) % 256] : List Int)) := ⟨_, rfl⟩
        replace H : (some y254) = some r := by first | (rw [hy254]; with_reducible exact H) | (have H2_ := (Option.bind_some _ _).symm.trans H; rw [hy254]; with_reducible exact H2_) | (have H2_ := (Option.bind_some _ _).symm.trans H; with_reducible exact H2_) | with_reducible exact H | (rw [hy254]; exact H) | exact H
        have Ny254 := Aside0.mk hy254
        clear hy254
        obtain rfl := Option.some.inj H
        go_wp2_with (first | ((with_reducible refine gate_dst (N := 11) rfl ?_); refine Kd.R_lit (Kd.int .u8) _ 5 ?hg (N := 11) ?hd (xs := ([(x0_2) % 256] : List Int)) (inner := [.int .u8 ((x0_2) % 256)]) (ok := fun _ => True) (okp := fun _ => True) ?hr ?hp (fun _ hk => hk) trivial (Below.refl _ _) (Nat.le_refl _) (by simp) ?_; (case hd => rfl); (case hg => rfl); (case hr => first | (go_simp; done) | (go_simp; rfl)); (case hp => exact (Reps.one (show Kd.M (Kd.int .u8) _ _ _ ((x0_2) % 256) [.int .u8 ((x0_2) % 256)] from rfl) (Reps.none _ _))); intro v255 w6 ho7 hb hg_ hnew_; clear hg_ hnew_; (first | rw [← Ny254.out] at ho7 | (simp only [Int.reduceToNat] at ho7; rw [← Ny254.out] at ho7)); have n0_ := Aside0.mk (Kd.R_lower ho7 (below_size (by repeat (first | (with_reducible first | exact HB.out | apply below_alloc | apply pw_below_drewN | apply below_drew1) | exact HB.out)))); have n1_ := Aside0.mk (below_step (by repeat (first | (with_reducible first | exact HB.out | apply below_alloc | apply pw_below_drewN | apply below_drew1) | exact HB.out)) hb); clear HB; have HO256 := n0_; have HB := n1_; clear n0_ n1_; clear hb ho7))
        go_ret
        exact ⟨_, by first | rfl | (simp [errW_none, errW_some] <;> rfl) | (simp [*, errW_none, errW_some] <;> rfl), by (with_reducible repeat (first | apply Kd.R_alloc | apply Kd.R_drewN | apply Kd.R_drew)); exact HO256.out, by repeat (first | (with_reducible first | exact HB.out | apply below_alloc | apply pw_below_drewN | apply below_drew1) | exact HB.out)⟩
      · rw [if_neg c5] at H
        have c5b0 : decide (x0_2 < 128) = false := decide_eq_false c5
        clear c5
        by_cases c8 : x0_2 < 2048
        · rw [if_pos c8] at H
          have c8b0 : decide (x0_2 < 2048) = true := decide_eq_true c8
          clear c8
          obtain ⟨y257, hy257⟩ : ∃ y_ : List Int, y_ = (([(Go.bits .or .i32 192 (x0_2 / 64)) % 256, (Go.bits .or .i32 128 (Go.bits .and .i32 x0_2 63)) % 256] : List Int)) := ⟨_, rfl⟩
          replace H : (some y257) = some r := by first | (rw [hy257]; with_reducible exact H) | (have H2_ := (Option.bind_some _ _).symm.trans H; rw [hy257]; with_reducible exact H2_) | (have H2_ := (Option.bind_some _ _).symm.trans H; with_reducible exact H2_) | with_reducible exact H | (rw [hy257]; exact H) | exact H
          have Ny257 := Aside0.mk hy257
          clear hy257
          obtain rfl := Option.some.inj H
          go_wp2_with (first | ((with_reducible refine gate_dst (N := 23) rfl ?_); refine Kd.R_lit (Kd.int .u8) _ 5 ?hg (N := 23) ?hd (xs := ([(Go.bits .or .i32 192 (x0_2 / 64)) % 256, (Go.bits .or .i32 128 (Go.bits .and .i32 x0_2 63)) % 256] : List Int)) (inner := [.int .u8 ((Go.bits .or .i32 192 (x0_2 / 64)) % 256), .int .u8 ((Go.bits .or .i32 128 (Go.bits .and .i32 x0_2 63)) % 256)]) (ok := fun _ => True) (okp := fun _ => True) ?hr ?hp (fun _ hk => hk) trivial (Below.refl _ _) (Nat.le_refl _) (by simp) ?_; (case hd => rfl); (case hg => rfl); (case hr => first | (go_simp; done) | (go_simp; rfl)); (case hp => exact (Reps.one (show Kd.M (Kd.int .u8) _ _ _ ((Go.bits .or .i32 192 (x0_2 / 64)) % 256) [.int .u8 ((Go.bits .or .i32 192 (x0_2 / 64)) % 256)] from rfl) (Reps.one (show Kd.M (Kd.int .u8) _ _ _ ((Go.bits .or .i32 128 (Go.bits .and .i32 x0_2 63)) % 256) [.int .u8 ((Go.bits .or .i32 128 (Go.bits .and .i32 x0_2 63)) % 256)] from rfl) (Reps.none _ _)))); intro v258 w9 ho10 hb hg_ hnew_; clear hg_ hnew_; (first | rw [← Ny257.out] at ho10 | (simp only [Int.reduceToNat] at ho10; rw [← Ny257.out] at ho10)); have n0_ := Aside0.mk (Kd.R_lower ho10 (below_size (by repeat (first | (with_reducible first | exact HB.out | apply below_alloc | apply pw_below_drewN | apply below_drew1) | exact HB.out)))); have n1_ := Aside0.mk (below_step (by repeat (first | (with_reducible first | exact HB.out | apply below_alloc | apply pw_below_drewN | apply below_drew1) | exact HB.out)) hb); clear HB; have HO259 := n0_; have HB := n1_; clear n0_ n1_; clear hb ho10))
          go_ret
          exact ⟨_, by first | rfl | (simp [errW_none, errW_some] <;> rfl) | (simp [*, errW_none, errW_some] <;> rfl), by (with_reducible repeat (first | apply Kd.R_alloc | apply Kd.R_drewN | apply Kd.R_drew)); exact HO259.out, by repeat (first | (with_reducible first | exact HB.out | apply below_alloc | apply pw_below_drewN | apply below_drew1) | exact HB.out)⟩
        · rw [if_neg c8] at H
          have c8b0 : decide (x0_2 < 2048) = false := decide_eq_false c8
          clear c8
          by_cases c11 : x0_2 < 65536
          · rw [if_pos c11] at H
            have c11b0 : decide (x0_2 < 65536) = true := decide_eq_true c11
            clear c11
            obtain ⟨y260, hy260⟩ : ∃ y_ : List Int, y_ = (([(Go.bits .or .i32 224 (x0_2 / 4096)) % 256, (Go.bits .or .i32 128 (Go.bits .and .i32 (x0_2 / 64) 63)) % 256, (Go.bits .or .i32 128 (Go.bits .and .i32 x0_2 63)) % 256] : List Int)) := ⟨_, rfl⟩
            replace H : (some y260) = some r := by first | (rw [hy260]; with_reducible exact H) | (have H2_ := (Option.bind_some _ _).symm.trans H; rw [hy260]; with_reducible exact H2_) | (have H2_ := (Option.bind_some _ _).symm.trans H; with_reducible exact H2_) | with_reducible exact H | (rw [hy260]; exact H) | exact H
            have Ny260 := Aside0.mk hy260
            clear hy260
            obtain rfl := Option.some.inj H
            go_wp2_with (first | ((with_reducible refine gate_dst (N := 40) rfl ?_); refine Kd.R_lit (Kd.int .u8) _ 5 ?hg (N := 40) ?hd (xs := ([(Go.bits .or .i32 224 (x0_2 / 4096)) % 256, (Go.bits .or .i32 128 (Go.bits .and .i32 (x0_2 / 64) 63)) % 256, (Go.bits .or .i32 128 (Go.bits .and .i32 x0_2 63)) % 256] : List Int)) (inner := [.int .u8 ((Go.bits .or .i32 224 (x0_2 / 4096)) % 256), .int .u8 ((Go.bits .or .i32 128 (Go.bits .and .i32 (x0_2 / 64) 63)) % 256), .int .u8 ((Go.bits .or .i32 128 (Go.bits .and .i32 x0_2 63)) % 256)]) (ok := fun _ => True) (okp := fun _ => True) ?hr ?hp (fun _ hk => hk) trivial (Below.refl _ _) (Nat.le_refl _) (by simp) ?_; (case hd => rfl); (case hg => rfl); (case hr => first | (go_simp; done) | (go_simp; rfl)); (case hp => exact (Reps.one (show Kd.M (Kd.int .u8) _ _ _ ((Go.bits .or .i32 224 (x0_2 / 4096)) % 256) [.int .u8 ((Go.bits .or .i32 224 (x0_2 / 4096)) % 256)] from rfl) (Reps.one (show Kd.M (Kd.int .u8) _ _ _ ((Go.bits .or .i32 128 (Go.bits .and .i32 (x0_2 / 64) 63)) % 256) [.int .u8 ((Go.bits .or .i32 128 (Go.bits .and .i32 (x0_2 / 64) 63)) % 256)] from rfl) (Reps.one (show Kd.M (Kd.int .u8) _ _ _ ((Go.bits .or .i32 128 (Go.bits .and .i32 x0_2 63)) % 256) [.int .u8 ((Go.bits .or .i32 128 (Go.bits .and .i32 x0_2 63)) % 256)] from rfl) (Reps.none _ _))))); intro v261 w12 ho13 hb hg_ hnew_; clear hg_ hnew_; (first | rw [← Ny260.out] at ho13 | (simp only [Int.reduceToNat] at ho13; rw [← Ny260.out] at ho13)); have n0_ := Aside0.mk (Kd.R_lower ho13 (below_size (by repeat (first | (with_reducible first | exact HB.out | apply below_alloc | apply pw_below_drewN | apply below_drew1) | exact HB.out)))); have n1_ := Aside0.mk (below_step (by repeat (first | (with_reducible first | exact HB.out | apply below_alloc | apply pw_below_drewN | apply below_drew1) | exact HB.out)) hb); clear HB; have HO262 := n0_; have HB := n1_; clear n0_ n1_; clear hb ho13))
            go_ret
            exact ⟨_, by first | rfl | (simp [errW_none, errW_some] <;> rfl) | (simp [*, errW_none, errW_some] <;> rfl), by (with_reducible repeat (first | apply Kd.R_alloc | apply Kd.R_drewN | apply Kd.R_drew)); exact HO262.out, by repeat (first | (with_reducible first | exact HB.out | apply below_alloc | apply pw_below_drewN | apply below_drew1) | exact HB.out)⟩
          · rw [if_neg c11] at H
            have c11b0 : decide (x0_2 < 65536) = false := decide_eq_false c11
            clear c11
            obtain ⟨y263, hy263⟩ : ∃ y_ : List Int, y_ = (([(Go.bits .or .i32 240 (x0_2 / 262144)) % 256, (Go.bits .or .i32 128 (Go.bits .and .i32 (x0_2 / 4096) 63)) % 256, (Go.bits .or .i32 128 (Go.bits .and .i32 (x0_2 / 64) 63)) % 256, (Go.bits .or .i32 128 (Go.bits .and .i32 x0_2 63)) % 256] : List Int)) := ⟨_, rfl⟩
            replace H : (some y263) = some r := by first | (rw [hy263]; with_reducible exact H) | (have H2_ := (Option.bind_some _ _).symm.trans H; rw [hy263]; with_reducible exact H2_) | (have H2_ := (Option.bind_some _ _).symm.trans H; with_reducible exact H2_) | with_reducible exact H | (rw [hy263]; exact H) | exact H
            have Ny263 := Aside0.mk hy263
            clear hy263
            obtain rfl := Option.some.inj H
            go_wp2_with (first | ((with_reducible refine gate_dst (N := 59) rfl ?_); refine Kd.R_lit (Kd.int .u8) _ 5 ?hg (N := 59) ?hd (xs := ([(Go.bits .or .i32 240 (x0_2 / 262144)) % 256, (Go.bits .or .i32 128 (Go.bits .and .i32 (x0_2 / 4096) 63)) % 256, (Go.bits .or .i32 128 (Go.bits .and .i32 (x0_2 / 64) 63)) % 256, (Go.bits .or .i32 128 (Go.bits .and .i32 x0_2 63)) % 256] : List Int)) (inner := [.int .u8 ((Go.bits .or .i32 240 (x0_2 / 262144)) % 256), .int .u8 ((Go.bits .or .i32 128 (Go.bits .and .i32 (x0_2 / 4096) 63)) % 256), .int .u8 ((Go.bits .or .i32 128 (Go.bits .and .i32 (x0_2 / 64) 63)) % 256), .int .u8 ((Go.bits .or .i32 128 (Go.bits .and .i32 x0_2 63)) % 256)]) (ok := fun _ => True) (okp := fun _ => True) ?hr ?hp (fun _ hk => hk) trivial (Below.refl _ _) (Nat.le_refl _) (by simp) ?_; (case hd => rfl); (case hg => rfl); (case hr => first | (go_simp; done) | (go_simp; rfl)); (case hp => exact (Reps.one (show Kd.M (Kd.int .u8) _ _ _ ((Go.bits .or .i32 240 (x0_2 / 262144)) % 256) [.int .u8 ((Go.bits .or .i32 240 (x0_2 / 262144)) % 256)] from rfl) (Reps.one (show Kd.M (Kd.int .u8) _ _ _ ((Go.bits .or .i32 128 (Go.bits .and .i32 (x0_2 / 4096) 63)) % 256) [.int .u8 ((Go.bits .or .i32 128 (Go.bits .and .i32 (x0_2 / 4096) 63)) % 256)] from rfl) (Reps.one (show Kd.M (Kd.int .u8) _ _ _ ((Go.bits .or .i32 128 (Go.bits .and .i32 (x0_2 / 64) 63)) % 256) [.int .u8 ((Go.bits .or .i32 128 (Go.bits .and .i32 (x0_2 / 64) 63)) % 256)] from rfl) (Reps.one (show Kd.M (Kd.int .u8) _ _ _ ((Go.bits .or .i32 128 (Go.bits .and .i32 x0_2 63)) % 256) [.int .u8 ((Go.bits .or .i32 128 (Go.bits .and .i32 x0_2 63)) % 256)] from rfl) (Reps.none _ _)))))); intro v264 w14 ho15 hb hg_ hnew_; clear hg_ hnew_; (first | rw [← Ny263.out] at ho15 | (simp only [Int.reduceToNat] at ho15; rw [← Ny263.out] at ho15)); have n0_ := Aside0.mk (Kd.R_lower ho15 (below_size (by repeat (first | (with_reducible first | exact HB.out | apply below_alloc | apply pw_below_drewN | apply below_drew1) | exact HB.out)))); have n1_ := Aside0.mk (below_step (by repeat (first | (with_reducible first | exact HB.out | apply below_alloc | apply pw_below_drewN | apply below_drew1) | exact HB.out)) hb); clear HB; have HO265 := n0_; have HB := n1_; clear n0_ n1_; clear hb ho15))
            go_ret
            exact ⟨_, by first | rfl | (simp [errW_none, errW_some] <;> rfl) | (simp [*, errW_none, errW_some] <;> rfl), by (with_reducible repeat (first | apply Kd.R_alloc | apply Kd.R_drewN | apply Kd.R_drew)); exact HO265.out, by repeat (first | (with_reducible first | exact HB.out | apply below_alloc | apply pw_below_drewN | apply below_drew1) | exact HB.out)⟩

/-! ### repriseseat_Rune: function 53 -/
def repriseseat_Rune.f (a0 : Int) : Option (Int) := (some (([97, 98, 32, 90, 48, 45, 233, 28450, 23383, 769, 8203, 1, 27, 127, 46, 99, 128512, 95, 65533, 100] : List Int) : List Int)).bind fun y266 => (if 0 ≤ (Int.tmod a0 20) then (if (Int.tmod a0 20) < (y266.length : Int) then (some (rd y266 (Int.tmod a0 20))) else (none)) else (none))
set_option maxHeartbeats 8000000 in
set_option maxRecDepth 100000 in
theorem repriseseat_Rune.calls (a0 : Int) (r : Int) (w : World) (h : repriseseat_Rune.f a0 = some r) :
    Calls Try.prog 53 #[.int .u8 a0] w fun e w' => e = .returned (.int .i32 r) ∧ Below w.heap.size w w' := by
  have HB := Aside0.mk (Below.refl w.heap.size w)
  have H : ((some (([97, 98, 32, 90, 48, 45, 233, 28450, 23383, 769, 8203, 1, 27, 127, 46, 99, 128512, 95, 65533, 100] : List Int) : List Int)).bind fun y266 => (if 0 ≤ (Int.tmod a0 20) then (if (Int.tmod a0 20) < (y266.length : Int) then (some (rd y266 (Int.tmod a0 20))) else (none)) else (none))) = some r := h
  clear h
  obtain ⟨y266, hy266⟩ : ∃ y_ : List Int, y_ = (([97, 98, 32, 90, 48, 45, 233, 28450, 23383, 769, 8203, 1, 27, 127, 46, 99, 128512, 95, 65533, 100] : List Int)) := ⟨_, rfl⟩
  replace H : (if 0 ≤ (Int.tmod a0 20) then (if (Int.tmod a0 20) < (y266.length : Int) then (some (rd y266 (Int.tmod a0 20))) else (none)) else (none)) = some r := by first | (rw [hy266]; with_reducible exact H) | (have H2_ := (Option.bind_some _ _).symm.trans H; rw [hy266]; with_reducible exact H2_) | (have H2_ := (Option.bind_some _ _).symm.trans H; with_reducible exact H2_) | with_reducible exact H | (rw [hy266]; exact H) | exact H
  have Ny266 := Aside0.mk hy266
  clear hy266
  obtain ⟨ji2, hji2⟩ : ∃ j_ : Int, (Int.tmod a0 20) = j_ := ⟨_, rfl⟩
  replace H : (if 0 ≤ (ji2) then (if (ji2) < (y266.length : Int) then (some (rd y266 (ji2))) else (none)) else (none)) = some r := by first | (rw [hji2] at H; exact H) | (simp only [hji2] at H ⊢; exact H)
  by_cases c3 : 0 ≤ (ji2)
  · rw [if_pos c3] at H
    have c3b0 : decide (0 ≤ (ji2)) = true := decide_eq_true c3
    clear c3
    by_cases c4 : (ji2) < (y266.length : Int)
    · rw [if_pos c4] at H
      have c4b0 : decide ((ji2) < (y266.length : Int)) = true := decide_eq_true c4
      clear c4
      obtain rfl := Option.some.inj H
      go_enter Try.func53, Try.ntmps53
      go_wp2_with (first | ((with_reducible refine gate_dst (N := 3) rfl ?_); refine Kd.R_lit (Kd.int .i32) _ 21 ?hg (N := 3) ?hd (xs := ([97, 98, 32, 90, 48, 45, 233, 28450, 23383, 769, 8203, 1, 27, 127, 46, 99, 128512, 95, 65533, 100] : List Int)) (inner := [.int .i32 97, .int .i32 98, .int .i32 32, .int .i32 90, .int .i32 48, .int .i32 45, .int .i32 233, .int .i32 28450, .int .i32 23383, .int .i32 769, .int .i32 8203, .int .i32 1, .int .i32 27, .int .i32 127, .int .i32 46, .int .i32 99, .int .i32 128512, .int .i32 95, .int .i32 65533, .int .i32 100]) (ok := fun _ => True) (okp := fun _ => True) ?hr ?hp (fun _ hk => hk) trivial (Below.refl _ _) (Nat.le_refl _) (by simp) ?_; (case hd => rfl); (case hg => rfl); (case hr => first | (go_simp; done) | (go_simp; rfl)); (case hp => exact (Reps.one (show Kd.M (Kd.int .i32) _ _ _ 97 [.int .i32 97] from rfl) (Reps.one (show Kd.M (Kd.int .i32) _ _ _ 98 [.int .i32 98] from rfl) (Reps.one (show Kd.M (Kd.int .i32) _ _ _ 32 [.int .i32 32] from rfl) (Reps.one (show Kd.M (Kd.int .i32) _ _ _ 90 [.int .i32 90] from rfl) (Reps.one (show Kd.M (Kd.int .i32) _ _ _ 48 [.int .i32 48] from rfl) (Reps.one (show Kd.M (Kd.int .i32) _ _ _ 45 [.int .i32 45] from rfl) (Reps.one (show Kd.M (Kd.int .i32) _ _ _ 233 [.int .i32 233] from rfl) (Reps.one (show Kd.M (Kd.int .i32) _ _ _ 28450 [.int .i32 28450] from rfl) (Reps.one (show Kd.M (Kd.int .i32) _ _ _ 23383 [.int .i32 23383] from rfl) (Reps.one (show Kd.M (Kd.int .i32) _ _ _ 769 [.int .i32 769] from rfl) (Reps.one (show Kd.M (Kd.int .i32) _ _ _ 8203 [.int .i32 8203] from rfl) (Reps.one (show Kd.M (Kd.int .i32) _ _ _ 1 [.int .i32 1] from rfl) (Reps.one (show Kd.M (Kd.int .i32) _ _ _ 27 [.int .i32 27] from rfl) (Reps.one (show Kd.M (Kd.int .i32) _ _ _ 127 [.int .i32 127] from rfl) (Reps.one (show Kd.M (Kd.int .i32) _ _ _ 46 [.int .i32 46] from rfl) (Reps.one (show Kd.M (Kd.int .i32) _ _ _ 99 [.int .i32 99] from rfl) (Reps.one (show Kd.M (Kd.int .i32) _ _ _ 128512 [.int .i32 128512] from rfl) (Reps.one (show Kd.M (Kd.int .i32) _ _ _ 95 [.int .i32 95] from rfl) (Reps.one (show Kd.M (Kd.int .i32) _ _ _ 65533 [.int .i32 65533] from rfl) (Reps.one (show Kd.M (Kd.int .i32) _ _ _ 100 [.int .i32 100] from rfl) (Reps.none _ _)))))))))))))))))))))); intro v267 w5 ho6 hb hg_ hnew_; clear hg_ hnew_; (first | rw [← Ny266.out] at ho6 | (simp only [Int.reduceToNat] at ho6; rw [← Ny266.out] at ho6)); have n0_ := Aside0.mk (Kd.R_lower ho6 (below_size (by repeat (first | (with_reducible first | exact HB.out | apply below_alloc | apply pw_below_drewN | apply below_drew1) | exact HB.out)))); have n1_ := Aside0.mk (below_step (by repeat (first | (with_reducible first | exact HB.out | apply below_alloc | apply pw_below_drewN | apply below_drew1) | exact HB.out)) hb); clear HB; have HO268 := n0_; have HB := n1_; clear n0_ n1_; clear hb ho6; obtain ⟨Ao7, co7, eo7⟩ := Kd.R_slice HO268.out; subst eo7; have p269 : 0 ≤ ((ji2) : Int) := of_decide_eq_true (by first | (with_reducible assumption) | assumption); have q269 : (ji2) < (y266.length : Int) := of_decide_eq_true (by first | (with_reducible assumption) | assumption); obtain ⟨ad269, e269, hx269_0⟩ := Kd.at_int (Kd.R_reads' HO268.out).2.2 (ji2) p269 q269; cases e269; replace p269 := eq_true p269; replace q269 := eq_true q269))
      go_ret
      exact ⟨by first | rfl | (simp [errW_none, errW_some] <;> rfl) | (simp only [← hji2]; first | rfl | (simp [errW_none, errW_some] <;> rfl)) | (simp [*, errW_none, errW_some] <;> rfl), by repeat (first | (with_reducible first | exact HB.out | apply below_alloc | apply pw_below_drewN | apply below_drew1) | exact HB.out)⟩
    · rw [if_neg c4] at H
      exact absurd H (by simp)
  · rw [if_neg c3] at H
    exact absurd H (by simp)

end Go.Proofs.Ytmaefdeigienjaa.QEventChain
