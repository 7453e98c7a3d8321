/- Lean functions for the Go functions that the law reaches, and proofs that each call comes to just what its Lean function tells; no condition. (Written by a program of this session.) -/
import Derived.Test.YtghfclocelhpjaaQLebTellsx3
import Derived.Test.YtghfclocelhpjaaQLebTellsx0
import Derived.Test.YtghfclocelhpjaaQLebTellsx1
import Derived.Test.YtghfclocelhpjaaQLebTellsx2
namespace Go.Proofs.Ytghfclocelhpjaa.QLebTells
open Go.RowKit Go.Proofs.YtghfclocelhpjaaW.PrintWords Go.Proofs.YtghfclocelhpjaaW.PrintLast Go.Proofs.YtghfclocelhpjaaW.PrintMore
attribute [local go_sem] max2_int min2_int max_two min_two max_three min_three max_four min_four   -- for this text's walks alone
set_option linter.unusedVariables false
set_option linter.unusedSimpArgs false

/-! ### repriselaw1_LebTells: function 3 -/
def repriselaw1_LebTells.T7 : Bool × List (List Nat × List Nat) := (true, [([], []), ([0], [0]), ([1], [1]), ([], []), ([3], [3]), ([2, 4], [2, 4]), ([5, 1], [5]), ([6], [6]), ([7, 6, 6], [6, 7]), ([6], [6]), ([9, 8, 6], [6, 9]), ([8, 10, 6], [6, 8, 10]), ([6, 11], [6, 11]), ([12, 10], [12]), ([13], [13]), ([14, 13], [13, 14]), ([15, 13, 13], [13, 15]), ([13], [13]), ([17, 13], [13, 17]), ([18, 16, 13], [13, 18]), ([16, 19, 13], [13, 16, 19]), ([13, 20], [13, 20]), ([21, 19], [21]), ([22], [22]), ([23, 22], [22, 23]), ([24, 22, 22], [22, 24]), ([25, 25, 22], [22, 25]), ([22], [22]), ([27, 22], [22, 27]), ([26, 28, 22], [22, 26, 28]), ([22, 29], [22, 29]), ([30, 26], [30]), ([31], [31]), ([32, 31, 31], [31, 32]), ([33, 33, 31], [31, 33]), ([31], [31]), ([34, 35, 31], [31, 34, 35]), ([31, 36], [31, 36])])
def repriselaw1_LebTells.B7 : List Nat := [0, 1, 3, 0, 8, 31, 63, 127, 255, 127, 1023, 2047, 4095, 8191, 16383, 32767, 65535, 16383, 147455, 524287, 1048575, 2097151, 4194303, 8388607, 16777215, 33554431, 67108863, 8388607, 142606335, 536870911, 1073741823, 2147483647, 4294967295, 8589934591, 17179869183, 4294967295, 68719476735, 137438953471]
theorem repriselaw1_LebTells.tab7 : rtab .any (opsOf Try.f3 7) = repriselaw1_LebTells.T7 := by kernel_rfl
theorem repriselaw1_LebTells.bits7 : waitsOk repriselaw1_LebTells.T7.2 repriselaw1_LebTells.B7 = true := by kernel_rfl
def repriselaw1_LebTells.T10 : Bool × List (List Nat × List Nat) := (true, [([], []), ([], []), ([], []), ([], []), ([3], [3]), ([], []), ([5], [5]), ([6], [6]), ([4, 7], [4, 7]), ([2, 8], [2, 8]), ([], []), ([10], [10]), ([], []), ([11, 12, 11], [11, 12]), ([], []), ([], []), ([], []), ([16], [16]), ([17], [17]), ([15, 18], [15, 18]), ([19, 13], [19]), ([], []), ([20, 21, 20], [20, 21]), ([0, 1, 9, 13, 14, 22], [0, 1, 9, 13, 14, 22]), ([23], [23]), ([], [])])
def repriselaw1_LebTells.B10 : List Nat := [0, 0, 0, 0, 8, 0, 32, 96, 248, 508, 0, 1024, 0, 7168, 0, 0, 0, 65536, 196608, 491520, 1031168, 0, 4176896, 8388607, 16777215, 0]
theorem repriselaw1_LebTells.tab10 : rtab .any (opsOf Try.f3 10) = repriselaw1_LebTells.T10 := by kernel_rfl
theorem repriselaw1_LebTells.bits10 : waitsOk repriselaw1_LebTells.T10.2 repriselaw1_LebTells.B10 = true := by kernel_rfl
def repriselaw1_LebTells.T24 : Bool × List (List Nat × List Nat) := (true, [([], []), ([0], [0]), ([1], [1]), ([], []), ([3, 1], [3]), ([4], [4]), ([2, 5], [2, 5]), ([6, 4, 0, 1, 2, 3, 4, 5, 6], [6])])
def repriselaw1_LebTells.B24 : List Nat := [0, 1, 3, 0, 11, 27, 63, 127]
theorem repriselaw1_LebTells.tab24 : rtab .any (opsOf Try.f3 24) = repriselaw1_LebTells.T24 := by kernel_rfl
theorem repriselaw1_LebTells.bits24 : waitsOk repriselaw1_LebTells.T24.2 repriselaw1_LebTells.B24 = true := by kernel_rfl
set_option maxHeartbeats 8000000 in
set_option maxRecDepth 100000 in
theorem repriselaw1_LebTells.calls (k : Nat) (a0 : Int) (a1 : Int) (P2_ : Nat → Prop) (A2 : Option Addr) (c2 : Nat) (l2 : List Int) (a3 : Int) (r : Bool) (w : World) (hs2 : Kd.V (Kd.int .u8) 5 w w.heap.size (fun k_ => P2_ k_) (.slice A2 l2.length c2) l2) (h : repriselaw1_LebTells.f k a0 a1 l2 a3 = some r) :
  Calls Try.prog 3 #[.int .u64 a0, .int .u8 a1, .slice A2 l2.length c2, .int .i64 a3] w fun e w' => e = .returned (.bool r) ∧ Below w.heap.size w w' := by
 have HO2 := Aside0.mk (show Kd.V (Kd.int .u8) 5 w w.heap.size (fun k_ => (P2_ k_ ∨ w.heap.size ≤ k_)) (.slice A2 l2.length c2) l2 from Kd.V_mono hs2 (fun k_ hk => .inl hk))
 have HB := Aside0.mk (Below.refl w.heap.size w)
 have H : ((repriselaw1_known.f k).bind fun t180 => (if t180 = true then (if (l2.length : Int) > 40 then (some true) else ((repriselaw1_edge.f a0 a1).bind fun t181 => ((repriseref1_Put.f k t181).bind fun t182 => ((leb_Put.f k t181).bind fun t185 => (if (strOfNums t185).toList = (strOfNums t182).toList then ((leb_Zag.f t181).bind fun t188 => ((repriseref1_Zag.f t181).bind fun t189 => (if t188 = t189 then ((leb_Zig.f (wrap64 (t181))).bind fun t190 => ((repriseref1_Zig.f (wrap64 (t181))).bind fun t191 => (if t190 = t191 then ((leb_Zig.f (wrap64 (t181))).bind fun t192 => ((leb_Zag.f t192).bind fun t193 => (if t193 = (wrap64 (t181)) then ((leb_Zag.f t181).bind fun t194 => ((leb_Zig.f t194).bind fun t195 => (repriselaw1_LebTells.j0 k a1 l2 a3 t182 (t195 != t181)))) else (repriselaw1_LebTells.j0 k a1 l2 a3 t182 true)))) else (repriselaw1_LebTells.j0 k a1 l2 a3 t182 true)))) else (repriselaw1_LebTells.j0 k a1 l2 a3 t182 true)))) else (repriselaw1_LebTells.j0 k a1 l2 a3 t182 true)))))) else (none))) = some r := h
 clear h
 replace H := Option.bind_eq_some_iff.mp H
 obtain ⟨t180, A50, H⟩ := H
 replace H : (if t180 = true then (if (l2.length : Int) > 40 then (some true) else ((repriselaw1_edge.f a0 a1).bind fun t181 => ((repriseref1_Put.f k t181).bind fun t182 => ((leb_Put.f k t181).bind fun t185 => (if (strOfNums t185).toList = (strOfNums t182).toList then ((leb_Zag.f t181).bind fun t188 => ((repriseref1_Zag.f t181).bind fun t189 => (if t188 = t189 then ((leb_Zig.f (wrap64 (t181))).bind fun t190 => ((repriseref1_Zig.f (wrap64 (t181))).bind fun t191 => (if t190 = t191 then ((leb_Zig.f (wrap64 (t181))).bind fun t192 => ((leb_Zag.f t192).bind fun t193 => (if t193 = (wrap64 (t181)) then ((leb_Zag.f t181).bind fun t194 => ((leb_Zig.f t194).bind fun t195 => (repriselaw1_LebTells.j0 k a1 l2 a3 t182 (t195 != t181)))) else (repriselaw1_LebTells.j0 k a1 l2 a3 t182 true)))) else (repriselaw1_LebTells.j0 k a1 l2 a3 t182 true)))) else (repriselaw1_LebTells.j0 k a1 l2 a3 t182 true)))) else (repriselaw1_LebTells.j0 k a1 l2 a3 t182 true)))))) else (none)) = some r := H
 have A5 := Aside0.mk A50
 clear A50
 by_cases c6 : t180 = true
 ·subst c6
  have H1 : (if (l2.length : Int) > 40 then (some true) else ((repriselaw1_edge.f a0 a1).bind fun t181 => ((repriseref1_Put.f k t181).bind fun t182 => ((leb_Put.f k t181).bind fun t185 => (if (strOfNums t185).toList = (strOfNums t182).toList then ((leb_Zag.f t181).bind fun t188 => ((repriseref1_Zag.f t181).bind fun t189 => (if t188 = t189 then ((leb_Zig.f (wrap64 (t181))).bind fun t190 => ((repriseref1_Zig.f (wrap64 (t181))).bind fun t191 => (if t190 = t191 then ((leb_Zig.f (wrap64 (t181))).bind fun t192 => ((leb_Zag.f t192).bind fun t193 => (if t193 = (wrap64 (t181)) then ((leb_Zag.f t181).bind fun t194 => ((leb_Zig.f t194).bind fun t195 => (repriselaw1_LebTells.j0 k a1 l2 a3 t182 (t195 != t181)))) else (repriselaw1_LebTells.j0 k a1 l2 a3 t182 true)))) else (repriselaw1_LebTells.j0 k a1 l2 a3 t182 true)))) else (repriselaw1_LebTells.j0 k a1 l2 a3 t182 true)))) else (repriselaw1_LebTells.j0 k a1 l2 a3 t182 true)))))) = some r := by rw [if_pos rfl] at H; exact H
  clear H
  have H := H1
  clear H1
  by_cases c7 : (l2.length : Int) > 40
  ·rw [if_pos c7] at H
   have c7b0 : decide (40 < (l2.length : Int)) = true := decide_eq_true c7
   have c7b1 : decide (40 < l2.length) = true := decide_eq_true (by omega)
   clear c7
   obtain rfl := Option.some.inj H
   go_enter Try.func3, Try.ntmps3
   go_wp2_with (first | ((with_reducible refine gate_callee (f := 4) rfl ?_); refine goesL_ (some 32) rfl rfl Try.func4 (by kernel_rfl) rfl #[] rfl (by (try simp only [List.map_toArray, List.map_cons, List.map_nil]); first | done | rfl | (simp only [List.length_drop, List.length_take]; rfl)) ?_; (with_reducible refine (repriselaw1_known.calls k  true _ A5.out).mono ?_); rintro e w8 ⟨rfl, hb⟩; refine ⟨_, rfl, ?_⟩; have n0_ := Aside0.mk (Kd.V_below (by (with_reducible repeat (first | apply Kd.V_alloc | apply Kd.V_drewN | apply Kd.V_drew)); exact HO2.out) hb); have n1_ := Aside0.mk (below_step (by repeat (first | (with_reducible first | exact HB.out | apply below_alloc | apply pw_below_drewN | apply below_drew1) | exact HB.out)) hb); clear HO2; clear HB; have HO2 := n0_; have HB := n1_; clear n0_ n1_; (try clear hb); (try clear hb2); (try clear hk); (try clear hi)))
   go_ret
   exact ⟨by first | rfl | (simp [errW_none, errW_some] <;> rfl) | (simp [*, errW_none, errW_some] <;> rfl), by repeat (first | (with_reducible first | exact HB.out | apply below_alloc | apply pw_below_drewN | apply below_drew1) | exact HB.out)⟩
  ·rw [if_neg c7] at H
   have c7b0 : decide (40 < (l2.length : Int)) = false := decide_eq_false c7
   have c7b1 : decide (40 < l2.length) = false := decide_eq_false (by omega)
   clear c7
   replace H := Option.bind_eq_some_iff.mp H
   obtain ⟨t181, A90, H⟩ := H
   replace H : ((repriseref1_Put.f k t181).bind fun t182 => ((leb_Put.f k t181).bind fun t185 => (if (strOfNums t185).toList = (strOfNums t182).toList then ((leb_Zag.f t181).bind fun t188 => ((repriseref1_Zag.f t181).bind fun t189 => (if t188 = t189 then ((leb_Zig.f (wrap64 (t181))).bind fun t190 => ((repriseref1_Zig.f (wrap64 (t181))).bind fun t191 => (if t190 = t191 then ((leb_Zig.f (wrap64 (t181))).bind fun t192 => ((leb_Zag.f t192).bind fun t193 => (if t193 = (wrap64 (t181)) then ((leb_Zag.f t181).bind fun t194 => ((leb_Zig.f t194).bind fun t195 => (repriselaw1_LebTells.j0 k a1 l2 a3 t182 (t195 != t181)))) else (repriselaw1_LebTells.j0 k a1 l2 a3 t182 true)))) else (repriselaw1_LebTells.j0 k a1 l2 a3 t182 true)))) else (repriselaw1_LebTells.j0 k a1 l2 a3 t182 true)))) else (repriselaw1_LebTells.j0 k a1 l2 a3 t182 true)))) = some r := H
   have A9 := Aside0.mk A90
   clear A90
   replace H := Option.bind_eq_some_iff.mp H
   obtain ⟨t182, A100, H⟩ := H
   replace H : ((leb_Put.f k t181).bind fun t185 => (if (strOfNums t185).toList = (strOfNums t182).toList then ((leb_Zag.f t181).bind fun t188 => ((repriseref1_Zag.f t181).bind fun t189 => (if t188 = t189 then ((leb_Zig.f (wrap64 (t181))).bind fun t190 => ((repriseref1_Zig.f (wrap64 (t181))).bind fun t191 => (if t190 = t191 then ((leb_Zig.f (wrap64 (t181))).bind fun t192 => ((leb_Zag.f t192).bind fun t193 => (if t193 = (wrap64 (t181)) then ((leb_Zag.f t181).bind fun t194 => ((leb_Zig.f t194).bind fun t195 => (repriselaw1_LebTells.j0 k a1 l2 a3 t182 (t195 != t181)))) else (repriselaw1_LebTells.j0 k a1 l2 a3 t182 true)))) else (repriselaw1_LebTells.j0 k a1 l2 a3 t182 true)))) else (repriselaw1_LebTells.j0 k a1 l2 a3 t182 true)))) else (repriselaw1_LebTells.j0 k a1 l2 a3 t182 true))) = some r := H
   have A10 := Aside0.mk A100
   clear A100
   have HC11 := Aside0.mk H
   clear H
   go_enter Try.func3, Try.ntmps3
   go_upto_region 7 with (first | ((with_reducible refine gate_callee (f := 4) rfl ?_); refine goesL_ (some 32) rfl rfl Try.func4 (by kernel_rfl) rfl #[] rfl (by (try simp only [List.map_toArray, List.map_cons, List.map_nil]); first | done | rfl | (simp only [List.length_drop, List.length_take]; rfl)) ?_; (with_reducible refine (repriselaw1_known.calls k  true _ A5.out).mono ?_); rintro e w12 ⟨rfl, hb⟩; refine ⟨_, rfl, ?_⟩; have n0_ := Aside0.mk (Kd.V_below (by (with_reducible repeat (first | apply Kd.V_alloc | apply Kd.V_drewN | apply Kd.V_drew)); exact HO2.out) hb); have n1_ := Aside0.mk (below_step (by repeat (first | (with_reducible first | exact HB.out | apply below_alloc | apply pw_below_drewN | apply below_drew1) | exact HB.out)) hb); clear HO2; clear HB; have HO2 := n0_; have HB := n1_; clear n0_ n1_; (try clear hb); (try clear hb2); (try clear hk); (try clear hi)) | ((with_reducible refine gate_callee (f := 5) rfl ?_); refine goesL_ (some 39) rfl rfl Try.func5 (by kernel_rfl) rfl #[.int .u64 a0, .int .u8 a1] rfl (by (try simp only [List.map_toArray, List.map_cons, List.map_nil]); first | done | rfl | (simp only [List.length_drop, List.length_take]; rfl)) ?_; (with_reducible refine (repriselaw1_edge.calls a0 a1 t181 _ A9.out).mono ?_); rintro e w13 ⟨rfl, hb⟩; refine ⟨_, rfl, ?_⟩; have n0_ := Aside0.mk (Kd.V_below (by (with_reducible repeat (first | apply Kd.V_alloc | apply Kd.V_drewN | apply Kd.V_drew)); exact HO2.out) hb); have n1_ := Aside0.mk (below_step (by repeat (first | (with_reducible first | exact HB.out | apply below_alloc | apply pw_below_drewN | apply below_drew1) | exact HB.out)) hb); clear HO2; clear HB; have HO2 := n0_; have HB := n1_; clear n0_ n1_; (try clear hb); (try clear hb2); (try clear hk); (try clear hi)) | ((with_reducible refine gate_callee (f := 6) rfl ?_); refine goesL_ (some 41) rfl rfl Try.func6 (by kernel_rfl) rfl #[.int .u64 t181] rfl (by (try simp only [List.map_toArray, List.map_cons, List.map_nil]); first | done | rfl | (simp only [List.length_drop, List.length_take]; rfl)) ?_; (with_reducible refine (repriseref1_Put.calls k t181 t182 _ A10.out).mono ?_); rintro e w14 ⟨v183, rfl, ho0, hb⟩; refine ⟨_, rfl, ?_⟩; have n0_ := Aside0.mk (Kd.V_elder' (by (with_reducible repeat (first | apply Kd.V_alloc | apply Kd.V_drewN | apply Kd.V_drew)); exact HO2.out) (Kd.R_base ho0) hb); have n1_ := Aside0.mk (Kd.R_lower (Kd.R_newM (M := fun k_ => (w.heap.size ≤ k_)) ho0 (below_size (by repeat (first | (with_reducible first | exact HB.out | apply below_alloc | apply pw_below_drewN | apply below_drew1) | exact HB.out))) (fun k_ h_ => h_)) (below_size (by repeat (first | (with_reducible first | exact HB.out | apply below_alloc | apply pw_below_drewN | apply below_drew1) | exact HB.out)))); have n2_ := Aside0.mk (below_step (by repeat (first | (with_reducible first | exact HB.out | apply below_alloc | apply pw_below_drewN | apply below_drew1) | exact HB.out)) hb); clear HO2; clear HB; have HO2 := n0_; have HO184 := n1_; have HB := n2_; clear n0_ n1_ n2_; (try clear hb); (try clear hb2); (try clear hk); (try clear hi); (try clear ho0)))
   (try simp only [Act.put, q1, q2, q3])
   go_cut [79] (fun v79 wc => ∃ (kq : Nat) (x79_10 : Bool), v79 = .bool x79_10 ∧ Aside0 (repriselaw1_LebTells.j0 kq a1 l2 a3 t182 x79_10 = some r) ∧ Aside0 (kq ≤ k) ∧ Aside0 (Kd.V (Kd.int .u8) 5 wc w.heap.size (fun k_ => (P2_ k_ ∨ w.heap.size ≤ k_) ∧ some k_ ≠ (v183 : Value).ownBlock) (.slice A2 l2.length c2) l2) ∧ Aside0 (Kd.R (Kd.int .u8) 5 wc w.heap.size (fun k_ => (w.heap.size ≤ k_)) v183 t182) ∧ Aside0 (Below w.heap.size w wc))
   case first =>
    have H := HC11.out
    clear HC11
    replace H := Option.bind_eq_some_iff.mp H
    obtain ⟨t185, A150, H⟩ := H
    replace H : (if (strOfNums t185).toList = (strOfNums t182).toList then ((leb_Zag.f t181).bind fun t188 => ((repriseref1_Zag.f t181).bind fun t189 => (if t188 = t189 then ((leb_Zig.f (wrap64 (t181))).bind fun t190 => ((repriseref1_Zig.f (wrap64 (t181))).bind fun t191 => (if t190 = t191 then ((leb_Zig.f (wrap64 (t181))).bind fun t192 => ((leb_Zag.f t192).bind fun t193 => (if t193 = (wrap64 (t181)) then ((leb_Zag.f t181).bind fun t194 => ((leb_Zig.f t194).bind fun t195 => (repriselaw1_LebTells.j0 k a1 l2 a3 t182 (t195 != t181)))) else (repriselaw1_LebTells.j0 k a1 l2 a3 t182 true)))) else (repriselaw1_LebTells.j0 k a1 l2 a3 t182 true)))) else (repriselaw1_LebTells.j0 k a1 l2 a3 t182 true)))) else (repriselaw1_LebTells.j0 k a1 l2 a3 t182 true)) = some r := H
    have A15 := Aside0.mk A150
    clear A150
    by_cases c16 : (strOfNums t185).toList = (strOfNums t182).toList
    ·rw [if_pos c16] at H
     have c16b0 : ((strOfNums t185).toList == (strOfNums t182).toList) = true := beq_iff_eq.mpr c16
     have c16b1 : ((strOfNums t185).toList != (strOfNums t182).toList) = false := bne_eq_false_iff_eq.mpr c16
     clear c16
     (first | rw [c16b0] | (simp only [i64_w, i32_w]; rw [c16b0]) | skip)
     replace H := Option.bind_eq_some_iff.mp H
     obtain ⟨t188, A170, H⟩ := H
     replace H : ((repriseref1_Zag.f t181).bind fun t189 => (if t188 = t189 then ((leb_Zig.f (wrap64 (t181))).bind fun t190 => ((repriseref1_Zig.f (wrap64 (t181))).bind fun t191 => (if t190 = t191 then ((leb_Zig.f (wrap64 (t181))).bind fun t192 => ((leb_Zag.f t192).bind fun t193 => (if t193 = (wrap64 (t181)) then ((leb_Zag.f t181).bind fun t194 => ((leb_Zig.f t194).bind fun t195 => (repriselaw1_LebTells.j0 k a1 l2 a3 t182 (t195 != t181)))) else (repriselaw1_LebTells.j0 k a1 l2 a3 t182 true)))) else (repriselaw1_LebTells.j0 k a1 l2 a3 t182 true)))) else (repriselaw1_LebTells.j0 k a1 l2 a3 t182 true))) = some r := H
     have A17 := Aside0.mk A170
     clear A170
     replace H := Option.bind_eq_some_iff.mp H
     obtain ⟨t189, A180, H⟩ := H
     replace H : (if t188 = t189 then ((leb_Zig.f (wrap64 (t181))).bind fun t190 => ((repriseref1_Zig.f (wrap64 (t181))).bind fun t191 => (if t190 = t191 then ((leb_Zig.f (wrap64 (t181))).bind fun t192 => ((leb_Zag.f t192).bind fun t193 => (if t193 = (wrap64 (t181)) then ((leb_Zag.f t181).bind fun t194 => ((leb_Zig.f t194).bind fun t195 => (repriselaw1_LebTells.j0 k a1 l2 a3 t182 (t195 != t181)))) else (repriselaw1_LebTells.j0 k a1 l2 a3 t182 true)))) else (repriselaw1_LebTells.j0 k a1 l2 a3 t182 true)))) else (repriselaw1_LebTells.j0 k a1 l2 a3 t182 true)) = some r := H
     have A18 := Aside0.mk A180
     clear A180
     by_cases c19 : t188 = t189
     ·rw [if_pos c19] at H
      have c19b0 : (t188 == t189) = true := beq_iff_eq.mpr c19
      have c19b1 : (t188 != t189) = false := bne_eq_false_iff_eq.mpr c19
      clear c19
      replace H := Option.bind_eq_some_iff.mp H
      obtain ⟨t190, A200, H⟩ := H
      replace H : ((repriseref1_Zig.f (wrap64 (t181))).bind fun t191 => (if t190 = t191 then ((leb_Zig.f (wrap64 (t181))).bind fun t192 => ((leb_Zag.f t192).bind fun t193 => (if t193 = (wrap64 (t181)) then ((leb_Zag.f t181).bind fun t194 => ((leb_Zig.f t194).bind fun t195 => (repriselaw1_LebTells.j0 k a1 l2 a3 t182 (t195 != t181)))) else (repriselaw1_LebTells.j0 k a1 l2 a3 t182 true)))) else (repriselaw1_LebTells.j0 k a1 l2 a3 t182 true))) = some r := H
      have A20 := Aside0.mk A200
      clear A200
      replace H := Option.bind_eq_some_iff.mp H
      obtain ⟨t191, A210, H⟩ := H
      replace H : (if t190 = t191 then ((leb_Zig.f (wrap64 (t181))).bind fun t192 => ((leb_Zag.f t192).bind fun t193 => (if t193 = (wrap64 (t181)) then ((leb_Zag.f t181).bind fun t194 => ((leb_Zig.f t194).bind fun t195 => (repriselaw1_LebTells.j0 k a1 l2 a3 t182 (t195 != t181)))) else (repriselaw1_LebTells.j0 k a1 l2 a3 t182 true)))) else (repriselaw1_LebTells.j0 k a1 l2 a3 t182 true)) = some r := H
      have A21 := Aside0.mk A210
      clear A210
      by_cases c22 : t190 = t191
      ·rw [if_pos c22] at H
       have c22b0 : (t190 == t191) = true := beq_iff_eq.mpr c22
       have c22b1 : (t190 != t191) = false := bne_eq_false_iff_eq.mpr c22
       clear c22
       replace H := Option.bind_eq_some_iff.mp H
       obtain ⟨t192, A230, H⟩ := H
       replace H : ((leb_Zag.f t192).bind fun t193 => (if t193 = (wrap64 (t181)) then ((leb_Zag.f t181).bind fun t194 => ((leb_Zig.f t194).bind fun t195 => (repriselaw1_LebTells.j0 k a1 l2 a3 t182 (t195 != t181)))) else (repriselaw1_LebTells.j0 k a1 l2 a3 t182 true))) = some r := H
       have A23 := Aside0.mk A230
       clear A230
       replace H := Option.bind_eq_some_iff.mp H
       obtain ⟨t193, A240, H⟩ := H
       replace H : (if t193 = (wrap64 (t181)) then ((leb_Zag.f t181).bind fun t194 => ((leb_Zig.f t194).bind fun t195 => (repriselaw1_LebTells.j0 k a1 l2 a3 t182 (t195 != t181)))) else (repriselaw1_LebTells.j0 k a1 l2 a3 t182 true)) = some r := H
       have A24 := Aside0.mk A240
       clear A240
       by_cases c25 : t193 = (wrap64 (t181))
       ·rw [if_pos c25] at H
        have c25b0 : (t193 == (wrap64 (t181))) = true := beq_iff_eq.mpr c25
        have c25b1 : (t193 != (wrap64 (t181))) = false := bne_eq_false_iff_eq.mpr c25
        clear c25
        replace H := Option.bind_eq_some_iff.mp H
        obtain ⟨t194, A260, H⟩ := H
        replace H : ((leb_Zig.f t194).bind fun t195 => (repriselaw1_LebTells.j0 k a1 l2 a3 t182 (t195 != t181))) = some r := H
        have A26 := Aside0.mk A260
        clear A260
        replace H := Option.bind_eq_some_iff.mp H
        obtain ⟨t195, A270, H⟩ := H
        replace H : (repriselaw1_LebTells.j0 k a1 l2 a3 t182 (t195 != t181)) = some r := H
        have A27 := Aside0.mk A270
        clear A270
        have H' := Aside0.mk H
        clear H
        try go_wp2
        have n0_ := Aside0.mk (Kd.V_drew HO2.out)
        have n1_ := Aside0.mk (Kd.R_drew HO184.out)
        have n2_ := Aside0.mk (below_drew1 HB.out)
        clear HO2
        clear HO184
        clear HB
        have HO2 := n0_
        have HO184 := n1_
        have HB := n2_
        clear n0_ n1_ n2_
        refine start_ (n := 38) (S := fun w' => Sem.run Try.prog (convert 23 9 v183) w' = Result.ok (.string (strOfNums t182)) w') (ds := []) #[O,O,O,O,O,O,O,O,O,O,O,O,O,O,O,O,O,O,O,O,O,O,O,O,O,O,O,O,O,O,O,O,O,O,O,O,O,O] (by kernel_rfl) rfl rfl (own_string (P := Try.prog) Try.underlying23 Try.underlying5 Try.underlying9 (Kd.own_of_R (by (with_reducible repeat (first | apply Kd.R_alloc | apply Kd.R_drewN | apply Kd.R_drew)); exact HO184.out))) (fun hHeld => ?_); refine with_tabW repriselaw1_LebTells.tab7 repriselaw1_LebTells.bits7 (fun HT_ HW_ => ?_)
        generalize w14.drew = w28 at HO2 HO184 HB hHeld ⊢
        refine pure_ (i := 0) (N := some 42) (v := ?_) (a' := ?_) #[I,O,O,O,O,O,O,O,O,O,O,O,O,O,O,O,O,O,O,O,O,O,O,O,O,O,O,O,O,O,O,O,O,O,O,O,O,O] rfl rfl (any_of HT_.out (by kernel_rfl)) (fun _ _ _ h => h) (Or.inl ⟨by rfl, ?_⟩) ?_ ?_
        rotate_left
        ·intro w'
         go_simp
         with_reducible rfl
        rotate_left
        ·simp only [Act.put,q1,q2,q3,i64_w,i32_w]
         rfl
        refine pure_ (i := 3) (N := some 45) (v := ?_) (a' := ?_) #[I,O,O,I,O,O,O,O,O,O,O,O,O,O,O,O,O,O,O,O,O,O,O,O,O,O,O,O,O,O,O,O,O,O,O,O,O,O] rfl rfl (any_of HT_.out (by kernel_rfl)) (fun _ _ _ h => h) (Or.inl ⟨by rfl, ?_⟩) ?_ ?_
        rotate_left
        ·intro w'
         go_simp
         with_reducible rfl
        rotate_left
        ·simp only [Act.put,q1,q2,q3,i64_w,i32_w]
         rfl
        refine take_ (i := 4) (N := some 46) (v := ?_) (a' := ?_) #[I,O,O,I,I,O,O,O,O,O,O,O,O,O,O,O,O,O,O,O,O,O,O,O,O,O,O,O,O,O,O,O,O,O,O,O,O,O] rfl rfl (take_ofW HT_.out HW_.out (by kernel_rfl)) (fun _ _ _ h => h) (Or.inl ⟨by rfl, ?_⟩) hHeld ?_ ?_
        rotate_left
        ·intro w' hs4
         go_simp
         rfl
        rotate_left
        ·simp only [Act.put,q1,q2,q3,i64_w,i32_w]
         rfl
        refine one_ (i := 1) (N := some 43) #[I,I,O,I,I,O,O,O,O,O,O,O,O,O,O,O,O,O,O,O,O,O,O,O,O,O,O,O,O,O,O,O,O,O,O,O,O,O] rfl rfl (one_of HT_.out (by kernel_rfl)) (by decide) (fun K hK => ?_)
        refine goes_ Try.func7 (by kernel_rfl) rfl #[.int .u64 t181] (by rfl) rfl rfl (by (try simp only [List.map_toArray, List.map_cons, List.map_nil]); first | done | rfl | (simp only [List.length_drop, List.length_take]; rfl)) ?_
        with_reducible refine (leb_Put.calls k t181 t185 _ A15.out).mono ?_
        rintro e w29 ⟨v186, rfl, ho0, hb⟩
        refine ⟨_, rfl, ?_⟩
        have n0_ := Aside0.mk (Kd.V_elder' (by (with_reducible repeat (first | apply Kd.V_alloc | apply Kd.V_drewN | apply Kd.V_drew)); exact HO2.out) (Kd.R_base ho0) hb)
        have n1_ := Aside0.mk (Kd.R_elder' (by (with_reducible repeat (first | apply Kd.R_alloc | apply Kd.R_drewN | apply Kd.R_drew)); exact HO184.out) (Kd.R_base ho0) hb)
        have n2_ := Aside0.mk (Kd.R_lower (Kd.R_new' (Kd.R_newM (M := fun k_ => (w.heap.size ≤ k_)) ho0 (below_size (by repeat (first | (with_reducible first | exact HB.out | apply below_alloc | apply pw_below_drewN | apply below_drew1) | exact HB.out))) (fun k_ h_ => h_)) (Kd.R_lt (by (with_reducible repeat (first | apply Kd.R_alloc | apply Kd.R_drewN | apply Kd.R_drew)); exact HO184.out))) (below_size (by repeat (first | (with_reducible first | exact HB.out | apply below_alloc | apply pw_below_drewN | apply below_drew1) | exact HB.out))))
        have n3_ := Aside0.mk (below_step (by repeat (first | (with_reducible first | exact HB.out | apply below_alloc | apply pw_below_drewN | apply below_drew1) | exact HB.out)) hb)
        clear HO2
        clear HO184
        clear HB
        have HO2 := n0_
        have HO184 := n1_
        have HO187 := n2_
        have HB := n3_
        clear n0_ n1_ n2_ n3_
        (try clear hb)
        (try clear hb2)
        (try clear hk)
        (try clear hi)
        (try clear ho0)
        have hcv31 := own_string (P := Try.prog) Try.underlying23 Try.underlying5 Try.underlying9 (Kd.own_of_R HO184.out)
        refine hK.out _ _ (own_string (P := Try.prog) Try.underlying23 Try.underlying5 Try.underlying9 (Kd.own_of_R (by (with_reducible repeat (first | apply Kd.R_alloc | apply Kd.R_drewN | apply Kd.R_drew)); exact HO184.out))) (fun hHeld => ?_)
        clear hK K
        refine norm_ (a' := ?_) ?_ ?_
        rotate_left
        ·show Act.put _ (some 43) _ = _
         simp only [Act.put,q1,q2,q3,i64_w,i32_w]
         rfl
        refine one_ (i := 2) (N := some 44) #[I,I,I,I,I,O,O,O,O,O,O,O,O,O,O,O,O,O,O,O,O,O,O,O,O,O,O,O,O,O,O,O,O,O,O,O,O,O] rfl rfl (one_of HT_.out (by kernel_rfl)) (by decide) (fun K hK => ?_)
        have hcv30 := own_string (P := Try.prog) Try.underlying23 Try.underlying5 Try.underlying9 (Kd.own_of_R HO187.out)
        refine value_ (w1 := ?_) (v := ?_) (by rfl) rfl ?_ ?_
        rotate_left 2
        ·go_simp
         constructor
         ·rfl
         ·rfl
        clear hcv30
        refine hK.out _ _ (own_string (P := Try.prog) Try.underlying23 Try.underlying5 Try.underlying9 (Kd.own_of_R (by (with_reducible repeat (first | apply Kd.R_alloc | apply Kd.R_drewN | apply Kd.R_drew)); exact HO184.out))) (fun hHeld => ?_)
        clear hK K
        refine norm_ (a' := ?_) ?_ ?_
        rotate_left
        ·show Act.put _ (some 44) _ = _
         simp only [Act.put,q1,q2,q3,i64_w,i32_w]
         rfl
        refine pure_ (i := 5) (N := some 47) (v := ?_) (a' := ?_) #[I,I,I,I,I,I,O,O,O,O,O,O,O,O,O,O,O,O,O,O,O,O,O,O,O,O,O,O,O,O,O,O,O,O,O,O,O,O] rfl rfl (any_of HT_.out (by kernel_rfl)) (fun _ _ _ h => h) (Or.inl ⟨by rfl, ?_⟩) ?_ ?_
        rotate_left
        ·intro w'
         go_simp
         with_reducible rfl
        rotate_left
        ·simp only [Act.put,q1,q2,q3,i64_w,i32_w]
         rfl
        refine pure_ (i := 6) (N := some 48) (v := ?_) (a' := ?_) #[I,I,I,I,I,I,I,O,O,O,O,O,O,O,O,O,O,O,O,O,O,O,O,O,O,O,O,O,O,O,O,O,O,O,O,O,O,O] rfl rfl (any_of HT_.out (by kernel_rfl)) (fun _ _ _ h => h) (Or.inl ⟨by rfl, ?_⟩) ?_ ?_
        rotate_left
        ·intro w'
         go_simp
         with_reducible rfl
        rotate_left
        ·simp only [Act.put,q1,q2,q3,i64_w,i32_w]
         rfl
        refine pure_ (i := 7) (N := some 49) (v := ?_) (a' := ?_) #[I,I,I,I,I,I,I,I,O,O,O,O,O,O,O,O,O,O,O,O,O,O,O,O,O,O,O,O,O,O,O,O,O,O,O,O,O,O] rfl rfl (any_of HT_.out (by kernel_rfl)) (fun _ _ _ h => h) (Or.inl ⟨by rfl, ?_⟩) ?_ ?_
        rotate_left
        ·intro w'
         go_simp
         with_reducible rfl
        rotate_left
        ·simp only [Act.put,q1,q2,q3,i64_w,i32_w]
         rfl
        refine pure_ (i := 9) (N := some 51) (v := ?_) (a' := ?_) #[I,I,I,I,I,I,I,I,O,I,O,O,O,O,O,O,O,O,O,O,O,O,O,O,O,O,O,O,O,O,O,O,O,O,O,O,O,O] rfl rfl (any_of HT_.out (by kernel_rfl)) (fun _ _ _ h => h) (Or.inl ⟨by rfl, ?_⟩) ?_ ?_
        rotate_left
        ·intro w'
         go_simp
         with_reducible rfl
        rotate_left
        ·simp only [Act.put,q1,q2,q3,i64_w,i32_w]
         rfl
        refine one_ (i := 8) (N := some 50) #[I,I,I,I,I,I,I,I,I,I,O,O,O,O,O,O,O,O,O,O,O,O,O,O,O,O,O,O,O,O,O,O,O,O,O,O,O,O] rfl rfl (one_of HT_.out (by kernel_rfl)) (by decide) (fun K hK => ?_)
        refine goes_ Try.func8 (by kernel_rfl) rfl #[.int .u64 t181] (by rfl) rfl rfl (by (try simp only [List.map_toArray, List.map_cons, List.map_nil]); first | done | rfl | (simp only [List.length_drop, List.length_take]; rfl)) ?_
        with_reducible refine (leb_Zag.calls t181 t188 _ A17.out).mono ?_
        rintro e w' ⟨rfl, ⟨nd, rfl⟩⟩
        refine ⟨_, rfl, ?_⟩
        refine hK.out _ _ (own_string (P := Try.prog) Try.underlying23 Try.underlying5 Try.underlying9 (Kd.own_of_R (by (with_reducible repeat (first | apply Kd.R_alloc | apply Kd.R_drewN | apply Kd.R_drew)); exact HO184.out))) (fun hHeld => ?_)
        clear hK K
        refine norm_ (a' := ?_) ?_ ?_
        rotate_left
        ·show Act.put _ (some 50) _ = _
         simp only [Act.put,q1,q2,q3,i64_w,i32_w]
         rfl
        refine one_ (i := 10) (N := some 52) #[I,I,I,I,I,I,I,I,I,I,I,O,O,O,O,O,O,O,O,O,O,O,O,O,O,O,O,O,O,O,O,O,O,O,O,O,O,O] rfl rfl (one_of HT_.out (by kernel_rfl)) (by decide) (fun K hK => ?_)
        refine goes_ Try.func9 (by kernel_rfl) rfl #[.int .u64 t181] (by rfl) rfl rfl (by (try simp only [List.map_toArray, List.map_cons, List.map_nil]); first | done | rfl | (simp only [List.length_drop, List.length_take]; rfl)) ?_
        with_reducible refine (repriseref1_Zag.calls t181 t189 _ A18.out).mono ?_
        rintro e w' ⟨rfl, ⟨nd, rfl⟩⟩
        refine ⟨_, rfl, ?_⟩
        refine hK.out _ _ (own_string (P := Try.prog) Try.underlying23 Try.underlying5 Try.underlying9 (Kd.own_of_R (by (with_reducible repeat (first | apply Kd.R_alloc | apply Kd.R_drewN | apply Kd.R_drew)); exact HO184.out))) (fun hHeld => ?_)
        clear hK K
        refine norm_ (a' := ?_) ?_ ?_
        rotate_left
        ·show Act.put _ (some 52) _ = _
         simp only [Act.put,q1,q2,q3,i64_w,i32_w]
         rfl
        refine pure_ (i := 11) (N := some 53) (v := ?_) (a' := ?_) #[I,I,I,I,I,I,I,I,I,I,I,I,O,O,O,O,O,O,O,O,O,O,O,O,O,O,O,O,O,O,O,O,O,O,O,O,O,O] rfl rfl (any_of HT_.out (by kernel_rfl)) (fun _ _ _ h => h) (Or.inl ⟨by rfl, ?_⟩) ?_ ?_
        rotate_left
        ·intro w'
         go_simp
         with_reducible rfl
        rotate_left
        ·simp only [Act.put,q1,q2,q3,i64_w,i32_w]
         rfl
        refine pure_ (i := 12) (N := some 54) (v := ?_) (a' := ?_) #[I,I,I,I,I,I,I,I,I,I,I,I,I,O,O,O,O,O,O,O,O,O,O,O,O,O,O,O,O,O,O,O,O,O,O,O,O,O] rfl rfl (any_of HT_.out (by kernel_rfl)) (fun _ _ _ h => h) (Or.inl ⟨by rfl, ?_⟩) ?_ ?_
        rotate_left
        ·intro w'
         go_simp
         with_reducible rfl
        rotate_left
        ·simp only [Act.put,q1,q2,q3,i64_w,i32_w]
         rfl
        refine pure_ (i := 13) (N := some 55) (v := ?_) (a' := ?_) #[I,I,I,I,I,I,I,I,I,I,I,I,I,I,O,O,O,O,O,O,O,O,O,O,O,O,O,O,O,O,O,O,O,O,O,O,O,O] rfl rfl (any_of HT_.out (by kernel_rfl)) (fun _ _ _ h => h) (Or.inl ⟨by rfl, ?_⟩) ?_ ?_
        rotate_left
        ·intro w'
         go_simp
         with_reducible rfl
        rotate_left
        ·simp only [Act.put,q1,q2,q3,i64_w,i32_w]
         rfl
        refine pure_ (i := 14) (N := some 56) (v := ?_) (a' := ?_) #[I,I,I,I,I,I,I,I,I,I,I,I,I,I,I,O,O,O,O,O,O,O,O,O,O,O,O,O,O,O,O,O,O,O,O,O,O,O] rfl rfl (any_of HT_.out (by kernel_rfl)) (fun _ _ _ h => h) (Or.inl ⟨by rfl, ?_⟩) ?_ ?_
        rotate_left
        ·intro w'
         go_simp
         with_reducible rfl
        rotate_left
        ·simp only [Act.put,q1,q2,q3,i64_w,i32_w]
         rfl
        refine pure_ (i := 15) (N := some 57) (v := ?_) (a' := ?_) #[I,I,I,I,I,I,I,I,I,I,I,I,I,I,I,I,O,O,O,O,O,O,O,O,O,O,O,O,O,O,O,O,O,O,O,O,O,O] rfl rfl (any_of HT_.out (by kernel_rfl)) (fun _ _ _ h => h) (Or.inl ⟨by rfl, ?_⟩) ?_ ?_
        rotate_left
        ·intro w'
         go_simp
         with_reducible rfl
        rotate_left
        ·simp only [Act.put,q1,q2,q3,i64_w,i32_w]
         rfl
        refine pure_ (i := 17) (N := some 59) (v := ?_) (a' := ?_) #[I,I,I,I,I,I,I,I,I,I,I,I,I,I,I,I,O,I,O,O,O,O,O,O,O,O,O,O,O,O,O,O,O,O,O,O,O,O] rfl rfl (any_of HT_.out (by kernel_rfl)) (fun _ _ _ h => h) (Or.inl ⟨by rfl, ?_⟩) ?_ ?_
        rotate_left
        ·intro w'
         go_simp
         with_reducible rfl
        rotate_left
        ·simp only [Act.put,q1,q2,q3,i64_w,i32_w]
         rfl
        refine pure_ (i := 18) (N := some 60) (v := ?_) (a' := ?_) #[I,I,I,I,I,I,I,I,I,I,I,I,I,I,I,I,O,I,I,O,O,O,O,O,O,O,O,O,O,O,O,O,O,O,O,O,O,O] rfl rfl (any_of HT_.out (by kernel_rfl)) (fun _ _ _ h => h) (Or.inl ⟨by rfl, ?_⟩) ?_ ?_
        rotate_left
        ·intro w'
         go_simp
         with_reducible rfl
        rotate_left
        ·simp only [Act.put,q1,q2,q3,i64_w,i32_w]
         rfl
        refine one_ (i := 16) (N := some 58) #[I,I,I,I,I,I,I,I,I,I,I,I,I,I,I,I,I,I,I,O,O,O,O,O,O,O,O,O,O,O,O,O,O,O,O,O,O,O] rfl rfl (one_of HT_.out (by kernel_rfl)) (by decide) (fun K hK => ?_)
        refine goes_ Try.func10 (by kernel_rfl) rfl #[.int .i64 (wrap64 (t181))] (by rfl) rfl rfl (by (try simp only [List.map_toArray, List.map_cons, List.map_nil]); first | done | rfl | (simp only [List.length_drop, List.length_take]; rfl)) ?_
        with_reducible refine (leb_Zig.calls (wrap64 (t181)) t190 _ A20.out).mono ?_
        rintro e w' ⟨rfl, ⟨nd, rfl⟩⟩
        refine ⟨_, rfl, ?_⟩
        refine hK.out _ _ (own_string (P := Try.prog) Try.underlying23 Try.underlying5 Try.underlying9 (Kd.own_of_R (by (with_reducible repeat (first | apply Kd.R_alloc | apply Kd.R_drewN | apply Kd.R_drew)); exact HO184.out))) (fun hHeld => ?_)
        clear hK K
        refine norm_ (a' := ?_) ?_ ?_
        rotate_left
        ·show Act.put _ (some 58) _ = _
         simp only [Act.put,q1,q2,q3,i64_w,i32_w]
         rfl
        refine one_ (i := 19) (N := some 61) #[I,I,I,I,I,I,I,I,I,I,I,I,I,I,I,I,I,I,I,I,O,O,O,O,O,O,O,O,O,O,O,O,O,O,O,O,O,O] rfl rfl (one_of HT_.out (by kernel_rfl)) (by decide) (fun K hK => ?_)
        refine goes_ Try.func11 (by kernel_rfl) rfl #[.int .i64 (wrap64 (t181))] (by rfl) rfl rfl (by (try simp only [List.map_toArray, List.map_cons, List.map_nil]); first | done | rfl | (simp only [List.length_drop, List.length_take]; rfl)) ?_
        with_reducible refine (repriseref1_Zig.calls (wrap64 (t181)) t191 _ A21.out).mono ?_
        rintro e w' ⟨rfl, ⟨nd, rfl⟩⟩
        refine ⟨_, rfl, ?_⟩
        refine hK.out _ _ (own_string (P := Try.prog) Try.underlying23 Try.underlying5 Try.underlying9 (Kd.own_of_R (by (with_reducible repeat (first | apply Kd.R_alloc | apply Kd.R_drewN | apply Kd.R_drew)); exact HO184.out))) (fun hHeld => ?_)
        clear hK K
        refine norm_ (a' := ?_) ?_ ?_
        rotate_left
        ·show Act.put _ (some 61) _ = _
         simp only [Act.put,q1,q2,q3,i64_w,i32_w]
         rfl
        refine pure_ (i := 20) (N := some 62) (v := ?_) (a' := ?_) #[I,I,I,I,I,I,I,I,I,I,I,I,I,I,I,I,I,I,I,I,I,O,O,O,O,O,O,O,O,O,O,O,O,O,O,O,O,O] rfl rfl (any_of HT_.out (by kernel_rfl)) (fun _ _ _ h => h) (Or.inl ⟨by rfl, ?_⟩) ?_ ?_
        rotate_left
        ·intro w'
         go_simp
         with_reducible rfl
        rotate_left
        ·simp only [Act.put,q1,q2,q3,i64_w,i32_w]
         rfl
        refine pure_ (i := 21) (N := some 63) (v := ?_) (a' := ?_) #[I,I,I,I,I,I,I,I,I,I,I,I,I,I,I,I,I,I,I,I,I,I,O,O,O,O,O,O,O,O,O,O,O,O,O,O,O,O] rfl rfl (any_of HT_.out (by kernel_rfl)) (fun _ _ _ h => h) (Or.inl ⟨by rfl, ?_⟩) ?_ ?_
        rotate_left
        ·intro w'
         go_simp
         with_reducible rfl
        rotate_left
        ·simp only [Act.put,q1,q2,q3,i64_w,i32_w]
         rfl
        refine pure_ (i := 22) (N := some 64) (v := ?_) (a' := ?_) #[I,I,I,I,I,I,I,I,I,I,I,I,I,I,I,I,I,I,I,I,I,I,I,O,O,O,O,O,O,O,O,O,O,O,O,O,O,O] rfl rfl (any_of HT_.out (by kernel_rfl)) (fun _ _ _ h => h) (Or.inl ⟨by rfl, ?_⟩) ?_ ?_
        rotate_left
        ·intro w'
         go_simp
         with_reducible rfl
        rotate_left
        ·simp only [Act.put,q1,q2,q3,i64_w,i32_w]
         rfl
        refine pure_ (i := 23) (N := some 65) (v := ?_) (a' := ?_) #[I,I,I,I,I,I,I,I,I,I,I,I,I,I,I,I,I,I,I,I,I,I,I,I,O,O,O,O,O,O,O,O,O,O,O,O,O,O] rfl rfl (any_of HT_.out (by kernel_rfl)) (fun _ _ _ h => h) (Or.inl ⟨by rfl, ?_⟩) ?_ ?_
        rotate_left
        ·intro w'
         go_simp
         with_reducible rfl
        rotate_left
        ·simp only [Act.put,q1,q2,q3,i64_w,i32_w]
         rfl
        refine pure_ (i := 24) (N := some 66) (v := ?_) (a' := ?_) #[I,I,I,I,I,I,I,I,I,I,I,I,I,I,I,I,I,I,I,I,I,I,I,I,I,O,O,O,O,O,O,O,O,O,O,O,O,O] rfl rfl (any_of HT_.out (by kernel_rfl)) (fun _ _ _ h => h) (Or.inl ⟨by rfl, ?_⟩) ?_ ?_
        rotate_left
        ·intro w'
         go_simp
         with_reducible rfl
        rotate_left
        ·simp only [Act.put,q1,q2,q3,i64_w,i32_w]
         rfl
        refine pure_ (i := 27) (N := some 69) (v := ?_) (a' := ?_) #[I,I,I,I,I,I,I,I,I,I,I,I,I,I,I,I,I,I,I,I,I,I,I,I,I,O,O,I,O,O,O,O,O,O,O,O,O,O] rfl rfl (any_of HT_.out (by kernel_rfl)) (fun _ _ _ h => h) (Or.inl ⟨by rfl, ?_⟩) ?_ ?_
        rotate_left
        ·intro w'
         go_simp
         with_reducible rfl
        rotate_left
        ·simp only [Act.put,q1,q2,q3,i64_w,i32_w]
         rfl
        refine pure_ (i := 28) (N := some 70) (v := ?_) (a' := ?_) #[I,I,I,I,I,I,I,I,I,I,I,I,I,I,I,I,I,I,I,I,I,I,I,I,I,O,O,I,I,O,O,O,O,O,O,O,O,O] rfl rfl (any_of HT_.out (by kernel_rfl)) (fun _ _ _ h => h) (Or.inl ⟨by rfl, ?_⟩) ?_ ?_
        rotate_left
        ·intro w'
         go_simp
         with_reducible rfl
        rotate_left
        ·simp only [Act.put,q1,q2,q3,i64_w,i32_w]
         rfl
        refine one_ (i := 25) (N := some 67) #[I,I,I,I,I,I,I,I,I,I,I,I,I,I,I,I,I,I,I,I,I,I,I,I,I,I,O,I,I,O,O,O,O,O,O,O,O,O] rfl rfl (one_of HT_.out (by kernel_rfl)) (by decide) (fun K hK => ?_)
        refine goes_ Try.func10 (by kernel_rfl) rfl #[.int .i64 (wrap64 (t181))] (by rfl) rfl rfl (by (try simp only [List.map_toArray, List.map_cons, List.map_nil]); first | done | rfl | (simp only [List.length_drop, List.length_take]; rfl)) ?_
        with_reducible refine (leb_Zig.calls (wrap64 (t181)) t192 _ A23.out).mono ?_
        rintro e w' ⟨rfl, ⟨nd, rfl⟩⟩
        refine ⟨_, rfl, ?_⟩
        refine hK.out _ _ (own_string (P := Try.prog) Try.underlying23 Try.underlying5 Try.underlying9 (Kd.own_of_R (by (with_reducible repeat (first | apply Kd.R_alloc | apply Kd.R_drewN | apply Kd.R_drew)); exact HO184.out))) (fun hHeld => ?_)
        clear hK K
        refine norm_ (a' := ?_) ?_ ?_
        rotate_left
        ·show Act.put _ (some 67) _ = _
         simp only [Act.put,q1,q2,q3,i64_w,i32_w]
         rfl
        refine one_ (i := 26) (N := some 68) #[I,I,I,I,I,I,I,I,I,I,I,I,I,I,I,I,I,I,I,I,I,I,I,I,I,I,I,I,I,O,O,O,O,O,O,O,O,O] rfl rfl (one_of HT_.out (by kernel_rfl)) (by decide) (fun K hK => ?_)
        refine goes_ Try.func8 (by kernel_rfl) rfl #[.int .u64 t192] (by rfl) rfl rfl (by (try simp only [List.map_toArray, List.map_cons, List.map_nil]); first | done | rfl | (simp only [List.length_drop, List.length_take]; rfl)) ?_
        with_reducible refine (leb_Zag.calls t192 t193 _ A24.out).mono ?_
        rintro e w' ⟨rfl, ⟨nd, rfl⟩⟩
        refine ⟨_, rfl, ?_⟩
        refine hK.out _ _ (own_string (P := Try.prog) Try.underlying23 Try.underlying5 Try.underlying9 (Kd.own_of_R (by (with_reducible repeat (first | apply Kd.R_alloc | apply Kd.R_drewN | apply Kd.R_drew)); exact HO184.out))) (fun hHeld => ?_)
        clear hK K
        refine norm_ (a' := ?_) ?_ ?_
        rotate_left
        ·show Act.put _ (some 68) _ = _
         simp only [Act.put,q1,q2,q3,i64_w,i32_w]
         rfl
        refine pure_ (i := 29) (N := some 71) (v := ?_) (a' := ?_) #[I,I,I,I,I,I,I,I,I,I,I,I,I,I,I,I,I,I,I,I,I,I,I,I,I,I,I,I,I,I,O,O,O,O,O,O,O,O] rfl rfl (any_of HT_.out (by kernel_rfl)) (fun _ _ _ h => h) (Or.inl ⟨by rfl, ?_⟩) ?_ ?_
        rotate_left
        ·intro w'
         go_simp
         with_reducible rfl
        rotate_left
        ·simp only [Act.put,q1,q2,q3,i64_w,i32_w]
         rfl
        refine pure_ (i := 30) (N := some 72) (v := ?_) (a' := ?_) #[I,I,I,I,I,I,I,I,I,I,I,I,I,I,I,I,I,I,I,I,I,I,I,I,I,I,I,I,I,I,I,O,O,O,O,O,O,O] rfl rfl (any_of HT_.out (by kernel_rfl)) (fun _ _ _ h => h) (Or.inl ⟨by rfl, ?_⟩) ?_ ?_
        rotate_left
        ·intro w'
         go_simp
         with_reducible rfl
        rotate_left
        ·simp only [Act.put,q1,q2,q3,i64_w,i32_w]
         rfl
        refine pure_ (i := 31) (N := some 73) (v := ?_) (a' := ?_) #[I,I,I,I,I,I,I,I,I,I,I,I,I,I,I,I,I,I,I,I,I,I,I,I,I,I,I,I,I,I,I,I,O,O,O,O,O,O] rfl rfl (any_of HT_.out (by kernel_rfl)) (fun _ _ _ h => h) (Or.inl ⟨by rfl, ?_⟩) ?_ ?_
        rotate_left
        ·intro w'
         go_simp
         with_reducible rfl
        rotate_left
        ·simp only [Act.put,q1,q2,q3,i64_w,i32_w]
         rfl
        refine pure_ (i := 32) (N := some 74) (v := ?_) (a' := ?_) #[I,I,I,I,I,I,I,I,I,I,I,I,I,I,I,I,I,I,I,I,I,I,I,I,I,I,I,I,I,I,I,I,I,O,O,O,O,O] rfl rfl (any_of HT_.out (by kernel_rfl)) (fun _ _ _ h => h) (Or.inl ⟨by rfl, ?_⟩) ?_ ?_
        rotate_left
        ·intro w'
         go_simp
         with_reducible rfl
        rotate_left
        ·simp only [Act.put,q1,q2,q3,i64_w,i32_w]
         rfl
        refine pure_ (i := 35) (N := some 77) (v := ?_) (a' := ?_) #[I,I,I,I,I,I,I,I,I,I,I,I,I,I,I,I,I,I,I,I,I,I,I,I,I,I,I,I,I,I,I,I,I,O,O,I,O,O] rfl rfl (any_of HT_.out (by kernel_rfl)) (fun _ _ _ h => h) (Or.inl ⟨by rfl, ?_⟩) ?_ ?_
        rotate_left
        ·intro w'
         go_simp
         with_reducible rfl
        rotate_left
        ·simp only [Act.put,q1,q2,q3,i64_w,i32_w]
         rfl
        refine one_ (i := 33) (N := some 75) #[I,I,I,I,I,I,I,I,I,I,I,I,I,I,I,I,I,I,I,I,I,I,I,I,I,I,I,I,I,I,I,I,I,I,O,I,O,O] rfl rfl (one_of HT_.out (by kernel_rfl)) (by decide) (fun K hK => ?_)
        refine goes_ Try.func8 (by kernel_rfl) rfl #[.int .u64 t181] (by rfl) rfl rfl (by (try simp only [List.map_toArray, List.map_cons, List.map_nil]); first | done | rfl | (simp only [List.length_drop, List.length_take]; rfl)) ?_
        with_reducible refine (leb_Zag.calls t181 t194 _ A26.out).mono ?_
        rintro e w' ⟨rfl, ⟨nd, rfl⟩⟩
        refine ⟨_, rfl, ?_⟩
        refine hK.out _ _ (own_string (P := Try.prog) Try.underlying23 Try.underlying5 Try.underlying9 (Kd.own_of_R (by (with_reducible repeat (first | apply Kd.R_alloc | apply Kd.R_drewN | apply Kd.R_drew)); exact HO184.out))) (fun hHeld => ?_)
        clear hK K
        refine norm_ (a' := ?_) ?_ ?_
        rotate_left
        ·show Act.put _ (some 75) _ = _
         simp only [Act.put,q1,q2,q3,i64_w,i32_w]
         rfl
        refine one_ (i := 34) (N := some 76) #[I,I,I,I,I,I,I,I,I,I,I,I,I,I,I,I,I,I,I,I,I,I,I,I,I,I,I,I,I,I,I,I,I,I,I,I,O,O] rfl rfl (one_of HT_.out (by kernel_rfl)) (by decide) (fun K hK => ?_)
        refine goes_ Try.func10 (by kernel_rfl) rfl #[.int .i64 t194] (by rfl) rfl rfl (by (try simp only [List.map_toArray, List.map_cons, List.map_nil]); first | done | rfl | (simp only [List.length_drop, List.length_take]; rfl)) ?_
        with_reducible refine (leb_Zig.calls t194 t195 _ A27.out).mono ?_
        rintro e w' ⟨rfl, ⟨nd, rfl⟩⟩
        refine ⟨_, rfl, ?_⟩
        refine hK.out _ _ (own_string (P := Try.prog) Try.underlying23 Try.underlying5 Try.underlying9 (Kd.own_of_R (by (with_reducible repeat (first | apply Kd.R_alloc | apply Kd.R_drewN | apply Kd.R_drew)); exact HO184.out))) (fun hHeld => ?_)
        clear hK K
        refine norm_ (a' := ?_) ?_ ?_
        rotate_left
        ·show Act.put _ (some 76) _ = _
         simp only [Act.put,q1,q2,q3,i64_w,i32_w]
         rfl
        refine pure_ (i := 36) (N := some 78) (v := ?_) (a' := ?_) #[I,I,I,I,I,I,I,I,I,I,I,I,I,I,I,I,I,I,I,I,I,I,I,I,I,I,I,I,I,I,I,I,I,I,I,I,I,O] rfl rfl (any_of HT_.out (by kernel_rfl)) (fun _ _ _ h => h) (Or.inl ⟨by rfl, ?_⟩) ?_ ?_
        rotate_left
        ·intro w'
         go_simp
         with_reducible rfl
        rotate_left
        ·simp only [Act.put,q1,q2,q3,i64_w,i32_w]
         rfl
        refine pure_ (i := 37) (N := some 79) (v := ?_) (a' := ?_) #[I,I,I,I,I,I,I,I,I,I,I,I,I,I,I,I,I,I,I,I,I,I,I,I,I,I,I,I,I,I,I,I,I,I,I,I,I,I] rfl rfl (any_of HT_.out (by kernel_rfl)) (fun _ _ _ h => h) (Or.inl ⟨by rfl, ?_⟩) ?_ ?_
        rotate_left
        ·intro w'
         go_simp
         with_reducible rfl
        rotate_left
        ·simp only [Act.put,q1,q2,q3,i64_w,i32_w]
         rfl
        refine done_ (done_of HT_.out (by kernel_rfl)) ?_
        try go_wp2
        go_meet
        case rel => exact ⟨_, ((t195 != t181)), (by first | rfl | (simp; done) | (simp [*]; done)), H', ⟨by first | omega | exact Nat.le_refl _⟩, ⟨by (with_reducible repeat (first | apply Kd.V_alloc | apply Kd.V_drewN | apply Kd.V_drew)); exact Kd.V_mono HO2.out (fun _ hk => by first | exact ⟨hk.1, hk.2.1⟩ | exact hk | exact hk.1 | exact hk.1.1 | exact hk.1.1.1 | exact hk.2)⟩, ⟨by (with_reducible repeat (first | apply Kd.R_alloc | apply Kd.R_drewN | apply Kd.R_drew)); exact Kd.R_mono HO184.out (fun _ hk => by first | exact hk.1 | exact hk | exact hk.1 | exact hk.1.1 | exact hk.1.1.1 | exact hk.2)⟩, ⟨by repeat (first | (with_reducible first | exact HB.out | apply below_alloc | apply pw_below_drewN | apply below_drew1) | exact HB.out)⟩⟩
       ·rw [if_neg c25] at H
        have c25b0 : (t193 == (wrap64 (t181))) = false := beq_eq_false_iff_ne.mpr c25
        have c25b1 : (t193 != (wrap64 (t181))) = true := bne_iff_ne.mpr c25
        have H' := Aside0.mk H
        clear H
        try go_wp2
        have n0_ := Aside0.mk (Kd.V_drew HO2.out)
        have n1_ := Aside0.mk (Kd.R_drew HO184.out)
        have n2_ := Aside0.mk (below_drew1 HB.out)
        clear HO2
        clear HO184
        clear HB
        have HO2 := n0_
        have HO184 := n1_
        have HB := n2_
        clear n0_ n1_ n2_
        refine start_ (n := 38) (S := fun w' => Sem.run Try.prog (convert 23 9 v183) w' = Result.ok (.string (strOfNums t182)) w') (ds := []) #[O,O,O,O,O,O,O,O,O,O,O,O,O,O,O,O,O,O,O,O,O,O,O,O,O,O,O,O,O,O,O,O,O,O,O,O,O,O] (by kernel_rfl) rfl rfl (own_string (P := Try.prog) Try.underlying23 Try.underlying5 Try.underlying9 (Kd.own_of_R (by (with_reducible repeat (first | apply Kd.R_alloc | apply Kd.R_drewN | apply Kd.R_drew)); exact HO184.out))) (fun hHeld => ?_); refine with_tabW repriselaw1_LebTells.tab7 repriselaw1_LebTells.bits7 (fun HT_ HW_ => ?_)
        generalize w14.drew = w33 at HO2 HO184 HB hHeld ⊢
        refine pure_ (i := 0) (N := some 42) (v := ?_) (a' := ?_) #[I,O,O,O,O,O,O,O,O,O,O,O,O,O,O,O,O,O,O,O,O,O,O,O,O,O,O,O,O,O,O,O,O,O,O,O,O,O] rfl rfl (any_of HT_.out (by kernel_rfl)) (fun _ _ _ h => h) (Or.inl ⟨by rfl, ?_⟩) ?_ ?_
        rotate_left
        ·intro w'
         go_simp
         with_reducible rfl
        rotate_left
        ·simp only [Act.put,q1,q2,q3,i64_w,i32_w]
         rfl
        refine pure_ (i := 3) (N := some 45) (v := ?_) (a' := ?_) #[I,O,O,I,O,O,O,O,O,O,O,O,O,O,O,O,O,O,O,O,O,O,O,O,O,O,O,O,O,O,O,O,O,O,O,O,O,O] rfl rfl (any_of HT_.out (by kernel_rfl)) (fun _ _ _ h => h) (Or.inl ⟨by rfl, ?_⟩) ?_ ?_
        rotate_left
        ·intro w'
         go_simp
         with_reducible rfl
        rotate_left
        ·simp only [Act.put,q1,q2,q3,i64_w,i32_w]
         rfl
        refine take_ (i := 4) (N := some 46) (v := ?_) (a' := ?_) #[I,O,O,I,I,O,O,O,O,O,O,O,O,O,O,O,O,O,O,O,O,O,O,O,O,O,O,O,O,O,O,O,O,O,O,O,O,O] rfl rfl (take_ofW HT_.out HW_.out (by kernel_rfl)) (fun _ _ _ h => h) (Or.inl ⟨by rfl, ?_⟩) hHeld ?_ ?_
        rotate_left
        ·intro w' hs4
         go_simp
         rfl
        rotate_left
        ·simp only [Act.put,q1,q2,q3,i64_w,i32_w]
         rfl
        refine one_ (i := 1) (N := some 43) #[I,I,O,I,I,O,O,O,O,O,O,O,O,O,O,O,O,O,O,O,O,O,O,O,O,O,O,O,O,O,O,O,O,O,O,O,O,O] rfl rfl (one_of HT_.out (by kernel_rfl)) (by decide) (fun K hK => ?_)
        refine goes_ Try.func7 (by kernel_rfl) rfl #[.int .u64 t181] (by rfl) rfl rfl (by (try simp only [List.map_toArray, List.map_cons, List.map_nil]); first | done | rfl | (simp only [List.length_drop, List.length_take]; rfl)) ?_
        with_reducible refine (leb_Put.calls k t181 t185 _ A15.out).mono ?_
        rintro e w34 ⟨v186, rfl, ho0, hb⟩
        refine ⟨_, rfl, ?_⟩
        have n0_ := Aside0.mk (Kd.V_elder' (by (with_reducible repeat (first | apply Kd.V_alloc | apply Kd.V_drewN | apply Kd.V_drew)); exact HO2.out) (Kd.R_base ho0) hb)
        have n1_ := Aside0.mk (Kd.R_elder' (by (with_reducible repeat (first | apply Kd.R_alloc | apply Kd.R_drewN | apply Kd.R_drew)); exact HO184.out) (Kd.R_base ho0) hb)
        have n2_ := Aside0.mk (Kd.R_lower (Kd.R_new' (Kd.R_newM (M := fun k_ => (w.heap.size ≤ k_)) ho0 (below_size (by repeat (first | (with_reducible first | exact HB.out | apply below_alloc | apply pw_below_drewN | apply below_drew1) | exact HB.out))) (fun k_ h_ => h_)) (Kd.R_lt (by (with_reducible repeat (first | apply Kd.R_alloc | apply Kd.R_drewN | apply Kd.R_drew)); exact HO184.out))) (below_size (by repeat (first | (with_reducible first | exact HB.out | apply below_alloc | apply pw_below_drewN | apply below_drew1) | exact HB.out))))
        have n3_ := Aside0.mk (below_step (by repeat (first | (with_reducible first | exact HB.out | apply below_alloc | apply pw_below_drewN | apply below_drew1) | exact HB.out)) hb)
        clear HO2
        clear HO184
        clear HB
        have HO2 := n0_
        have HO184 := n1_
        have HO187 := n2_
        have HB := n3_
        clear n0_ n1_ n2_ n3_
        (try clear hb)
        (try clear hb2)
        (try clear hk)
        (try clear hi)
        (try clear ho0)
        have hcv36 := own_string (P := Try.prog) Try.underlying23 Try.underlying5 Try.underlying9 (Kd.own_of_R HO184.out)
        refine hK.out _ _ (own_string (P := Try.prog) Try.underlying23 Try.underlying5 Try.underlying9 (Kd.own_of_R (by (with_reducible repeat (first | apply Kd.R_alloc | apply Kd.R_drewN | apply Kd.R_drew)); exact HO184.out))) (fun hHeld => ?_)
        clear hK K
        refine norm_ (a' := ?_) ?_ ?_
        rotate_left
        ·show Act.put _ (some 43) _ = _
         simp only [Act.put,q1,q2,q3,i64_w,i32_w]
         rfl
        refine one_ (i := 2) (N := some 44) #[I,I,I,I,I,O,O,O,O,O,O,O,O,O,O,O,O,O,O,O,O,O,O,O,O,O,O,O,O,O,O,O,O,O,O,O,O,O] rfl rfl (one_of HT_.out (by kernel_rfl)) (by decide) (fun K hK => ?_)
        have hcv35 := own_string (P := Try.prog) Try.underlying23 Try.underlying5 Try.underlying9 (Kd.own_of_R HO187.out)
        refine value_ (w1 := ?_) (v := ?_) (by rfl) rfl ?_ ?_
        rotate_left 2
        ·go_simp
         constructor
         ·rfl
         ·rfl
        clear hcv35
        refine hK.out _ _ (own_string (P := Try.prog) Try.underlying23 Try.underlying5 Try.underlying9 (Kd.own_of_R (by (with_reducible repeat (first | apply Kd.R_alloc | apply Kd.R_drewN | apply Kd.R_drew)); exact HO184.out))) (fun hHeld => ?_)
        clear hK K
        refine norm_ (a' := ?_) ?_ ?_
        rotate_left
        ·show Act.put _ (some 44) _ = _
         simp only [Act.put,q1,q2,q3,i64_w,i32_w]
         rfl
        refine pure_ (i := 5) (N := some 47) (v := ?_) (a' := ?_) #[I,I,I,I,I,I,O,O,O,O,O,O,O,O,O,O,O,O,O,O,O,O,O,O,O,O,O,O,O,O,O,O,O,O,O,O,O,O] rfl rfl (any_of HT_.out (by kernel_rfl)) (fun _ _ _ h => h) (Or.inl ⟨by rfl, ?_⟩) ?_ ?_
        rotate_left
        ·intro w'
         go_simp
         with_reducible rfl
        rotate_left
        ·simp only [Act.put,q1,q2,q3,i64_w,i32_w]
         rfl
        refine pure_ (i := 6) (N := some 48) (v := ?_) (a' := ?_) #[I,I,I,I,I,I,I,O,O,O,O,O,O,O,O,O,O,O,O,O,O,O,O,O,O,O,O,O,O,O,O,O,O,O,O,O,O,O] rfl rfl (any_of HT_.out (by kernel_rfl)) (fun _ _ _ h => h) (Or.inl ⟨by rfl, ?_⟩) ?_ ?_
        rotate_left
        ·intro w'
         go_simp
         with_reducible rfl
        rotate_left
        ·simp only [Act.put,q1,q2,q3,i64_w,i32_w]
         rfl
        refine pure_ (i := 7) (N := some 49) (v := ?_) (a' := ?_) #[I,I,I,I,I,I,I,I,O,O,O,O,O,O,O,O,O,O,O,O,O,O,O,O,O,O,O,O,O,O,O,O,O,O,O,O,O,O] rfl rfl (any_of HT_.out (by kernel_rfl)) (fun _ _ _ h => h) (Or.inl ⟨by rfl, ?_⟩) ?_ ?_
        rotate_left
        ·intro w'
         go_simp
         with_reducible rfl
        rotate_left
        ·simp only [Act.put,q1,q2,q3,i64_w,i32_w]
         rfl
        refine pure_ (i := 9) (N := some 51) (v := ?_) (a' := ?_) #[I,I,I,I,I,I,I,I,O,I,O,O,O,O,O,O,O,O,O,O,O,O,O,O,O,O,O,O,O,O,O,O,O,O,O,O,O,O] rfl rfl (any_of HT_.out (by kernel_rfl)) (fun _ _ _ h => h) (Or.inl ⟨by rfl, ?_⟩) ?_ ?_
        rotate_left
        ·intro w'
         go_simp
         with_reducible rfl
        rotate_left
        ·simp only [Act.put,q1,q2,q3,i64_w,i32_w]
         rfl
        refine one_ (i := 8) (N := some 50) #[I,I,I,I,I,I,I,I,I,I,O,O,O,O,O,O,O,O,O,O,O,O,O,O,O,O,O,O,O,O,O,O,O,O,O,O,O,O] rfl rfl (one_of HT_.out (by kernel_rfl)) (by decide) (fun K hK => ?_)
        refine goes_ Try.func8 (by kernel_rfl) rfl #[.int .u64 t181] (by rfl) rfl rfl (by (try simp only [List.map_toArray, List.map_cons, List.map_nil]); first | done | rfl | (simp only [List.length_drop, List.length_take]; rfl)) ?_
        with_reducible refine (leb_Zag.calls t181 t188 _ A17.out).mono ?_
        rintro e w' ⟨rfl, ⟨nd, rfl⟩⟩
        refine ⟨_, rfl, ?_⟩
        refine hK.out _ _ (own_string (P := Try.prog) Try.underlying23 Try.underlying5 Try.underlying9 (Kd.own_of_R (by (with_reducible repeat (first | apply Kd.R_alloc | apply Kd.R_drewN | apply Kd.R_drew)); exact HO184.out))) (fun hHeld => ?_)
        clear hK K
        refine norm_ (a' := ?_) ?_ ?_
        rotate_left
        ·show Act.put _ (some 50) _ = _
         simp only [Act.put,q1,q2,q3,i64_w,i32_w]
         rfl
        refine one_ (i := 10) (N := some 52) #[I,I,I,I,I,I,I,I,I,I,I,O,O,O,O,O,O,O,O,O,O,O,O,O,O,O,O,O,O,O,O,O,O,O,O,O,O,O] rfl rfl (one_of HT_.out (by kernel_rfl)) (by decide) (fun K hK => ?_)
        refine goes_ Try.func9 (by kernel_rfl) rfl #[.int .u64 t181] (by rfl) rfl rfl (by (try simp only [List.map_toArray, List.map_cons, List.map_nil]); first | done | rfl | (simp only [List.length_drop, List.length_take]; rfl)) ?_
        with_reducible refine (repriseref1_Zag.calls t181 t189 _ A18.out).mono ?_
        rintro e w' ⟨rfl, ⟨nd, rfl⟩⟩
        refine ⟨_, rfl, ?_⟩
        refine hK.out _ _ (own_string (P := Try.prog) Try.underlying23 Try.underlying5 Try.underlying9 (Kd.own_of_R (by (with_reducible repeat (first | apply Kd.R_alloc | apply Kd.R_drewN | apply Kd.R_drew)); exact HO184.out))) (fun hHeld => ?_)
        clear hK K
        refine norm_ (a' := ?_) ?_ ?_
        rotate_left
        ·show Act.put _ (some 52) _ = _
         simp only [Act.put,q1,q2,q3,i64_w,i32_w]
         rfl
        refine pure_ (i := 11) (N := some 53) (v := ?_) (a' := ?_) #[I,I,I,I,I,I,I,I,I,I,I,I,O,O,O,O,O,O,O,O,O,O,O,O,O,O,O,O,O,O,O,O,O,O,O,O,O,O] rfl rfl (any_of HT_.out (by kernel_rfl)) (fun _ _ _ h => h) (Or.inl ⟨by rfl, ?_⟩) ?_ ?_
        rotate_left
        ·intro w'
         go_simp
         with_reducible rfl
        rotate_left
        ·simp only [Act.put,q1,q2,q3,i64_w,i32_w]
         rfl
        refine pure_ (i := 12) (N := some 54) (v := ?_) (a' := ?_) #[I,I,I,I,I,I,I,I,I,I,I,I,I,O,O,O,O,O,O,O,O,O,O,O,O,O,O,O,O,O,O,O,O,O,O,O,O,O] rfl rfl (any_of HT_.out (by kernel_rfl)) (fun _ _ _ h => h) (Or.inl ⟨by rfl, ?_⟩) ?_ ?_
        rotate_left
        ·intro w'
         go_simp
         with_reducible rfl
        rotate_left
        ·simp only [Act.put,q1,q2,q3,i64_w,i32_w]
         rfl
        refine pure_ (i := 13) (N := some 55) (v := ?_) (a' := ?_) #[I,I,I,I,I,I,I,I,I,I,I,I,I,I,O,O,O,O,O,O,O,O,O,O,O,O,O,O,O,O,O,O,O,O,O,O,O,O] rfl rfl (any_of HT_.out (by kernel_rfl)) (fun _ _ _ h => h) (Or.inl ⟨by rfl, ?_⟩) ?_ ?_
        rotate_left
        ·intro w'
         go_simp
         with_reducible rfl
        rotate_left
        ·simp only [Act.put,q1,q2,q3,i64_w,i32_w]
         rfl
        refine pure_ (i := 14) (N := some 56) (v := ?_) (a' := ?_) #[I,I,I,I,I,I,I,I,I,I,I,I,I,I,I,O,O,O,O,O,O,O,O,O,O,O,O,O,O,O,O,O,O,O,O,O,O,O] rfl rfl (any_of HT_.out (by kernel_rfl)) (fun _ _ _ h => h) (Or.inl ⟨by rfl, ?_⟩) ?_ ?_
        rotate_left
        ·intro w'
         go_simp
         with_reducible rfl
        rotate_left
        ·simp only [Act.put,q1,q2,q3,i64_w,i32_w]
         rfl
        refine pure_ (i := 15) (N := some 57) (v := ?_) (a' := ?_) #[I,I,I,I,I,I,I,I,I,I,I,I,I,I,I,I,O,O,O,O,O,O,O,O,O,O,O,O,O,O,O,O,O,O,O,O,O,O] rfl rfl (any_of HT_.out (by kernel_rfl)) (fun _ _ _ h => h) (Or.inl ⟨by rfl, ?_⟩) ?_ ?_
        rotate_left
        ·intro w'
         go_simp
         with_reducible rfl
        rotate_left
        ·simp only [Act.put,q1,q2,q3,i64_w,i32_w]
         rfl
        refine pure_ (i := 17) (N := some 59) (v := ?_) (a' := ?_) #[I,I,I,I,I,I,I,I,I,I,I,I,I,I,I,I,O,I,O,O,O,O,O,O,O,O,O,O,O,O,O,O,O,O,O,O,O,O] rfl rfl (any_of HT_.out (by kernel_rfl)) (fun _ _ _ h => h) (Or.inl ⟨by rfl, ?_⟩) ?_ ?_
        rotate_left
        ·intro w'
         go_simp
         with_reducible rfl
        rotate_left
        ·simp only [Act.put,q1,q2,q3,i64_w,i32_w]
         rfl
        refine pure_ (i := 18) (N := some 60) (v := ?_) (a' := ?_) #[I,I,I,I,I,I,I,I,I,I,I,I,I,I,I,I,O,I,I,O,O,O,O,O,O,O,O,O,O,O,O,O,O,O,O,O,O,O] rfl rfl (any_of HT_.out (by kernel_rfl)) (fun _ _ _ h => h) (Or.inl ⟨by rfl, ?_⟩) ?_ ?_
        rotate_left
        ·intro w'
         go_simp
         with_reducible rfl
        rotate_left
        ·simp only [Act.put,q1,q2,q3,i64_w,i32_w]
         rfl
        refine one_ (i := 16) (N := some 58) #[I,I,I,I,I,I,I,I,I,I,I,I,I,I,I,I,I,I,I,O,O,O,O,O,O,O,O,O,O,O,O,O,O,O,O,O,O,O] rfl rfl (one_of HT_.out (by kernel_rfl)) (by decide) (fun K hK => ?_)
        refine goes_ Try.func10 (by kernel_rfl) rfl #[.int .i64 (wrap64 (t181))] (by rfl) rfl rfl (by (try simp only [List.map_toArray, List.map_cons, List.map_nil]); first | done | rfl | (simp only [List.length_drop, List.length_take]; rfl)) ?_
        with_reducible refine (leb_Zig.calls (wrap64 (t181)) t190 _ A20.out).mono ?_
        rintro e w' ⟨rfl, ⟨nd, rfl⟩⟩
        refine ⟨_, rfl, ?_⟩
        refine hK.out _ _ (own_string (P := Try.prog) Try.underlying23 Try.underlying5 Try.underlying9 (Kd.own_of_R (by (with_reducible repeat (first | apply Kd.R_alloc | apply Kd.R_drewN | apply Kd.R_drew)); exact HO184.out))) (fun hHeld => ?_)
        clear hK K
        refine norm_ (a' := ?_) ?_ ?_
        rotate_left
        ·show Act.put _ (some 58) _ = _
         simp only [Act.put,q1,q2,q3,i64_w,i32_w]
         rfl
        refine one_ (i := 19) (N := some 61) #[I,I,I,I,I,I,I,I,I,I,I,I,I,I,I,I,I,I,I,I,O,O,O,O,O,O,O,O,O,O,O,O,O,O,O,O,O,O] rfl rfl (one_of HT_.out (by kernel_rfl)) (by decide) (fun K hK => ?_)
        refine goes_ Try.func11 (by kernel_rfl) rfl #[.int .i64 (wrap64 (t181))] (by rfl) rfl rfl (by (try simp only [List.map_toArray, List.map_cons, List.map_nil]); first | done | rfl | (simp only [List.length_drop, List.length_take]; rfl)) ?_
        with_reducible refine (repriseref1_Zig.calls (wrap64 (t181)) t191 _ A21.out).mono ?_
        rintro e w' ⟨rfl, ⟨nd, rfl⟩⟩
        refine ⟨_, rfl, ?_⟩
        refine hK.out _ _ (own_string (P := Try.prog) Try.underlying23 Try.underlying5 Try.underlying9 (Kd.own_of_R (by (with_reducible repeat (first | apply Kd.R_alloc | apply Kd.R_drewN | apply Kd.R_drew)); exact HO184.out))) (fun hHeld => ?_)
        clear hK K
        refine norm_ (a' := ?_) ?_ ?_
        rotate_left
        ·show Act.put _ (some 61) _ = _
         simp only [Act.put,q1,q2,q3,i64_w,i32_w]
         rfl
        refine pure_ (i := 20) (N := some 62) (v := ?_) (a' := ?_) #[I,I,I,I,I,I,I,I,I,I,I,I,I,I,I,I,I,I,I,I,I,O,O,O,O,O,O,O,O,O,O,O,O,O,O,O,O,O] rfl rfl (any_of HT_.out (by kernel_rfl)) (fun _ _ _ h => h) (Or.inl ⟨by rfl, ?_⟩) ?_ ?_
        rotate_left
        ·intro w'
         go_simp
         with_reducible rfl
        rotate_left
        ·simp only [Act.put,q1,q2,q3,i64_w,i32_w]
         rfl
        refine pure_ (i := 21) (N := some 63) (v := ?_) (a' := ?_) #[I,I,I,I,I,I,I,I,I,I,I,I,I,I,I,I,I,I,I,I,I,I,O,O,O,O,O,O,O,O,O,O,O,O,O,O,O,O] rfl rfl (any_of HT_.out (by kernel_rfl)) (fun _ _ _ h => h) (Or.inl ⟨by rfl, ?_⟩) ?_ ?_
        rotate_left
        ·intro w'
         go_simp
         with_reducible rfl
        rotate_left
        ·simp only [Act.put,q1,q2,q3,i64_w,i32_w]
         rfl
        refine pure_ (i := 22) (N := some 64) (v := ?_) (a' := ?_) #[I,I,I,I,I,I,I,I,I,I,I,I,I,I,I,I,I,I,I,I,I,I,I,O,O,O,O,O,O,O,O,O,O,O,O,O,O,O] rfl rfl (any_of HT_.out (by kernel_rfl)) (fun _ _ _ h => h) (Or.inl ⟨by rfl, ?_⟩) ?_ ?_
        rotate_left
        ·intro w'
         go_simp
         with_reducible rfl
        rotate_left
        ·simp only [Act.put,q1,q2,q3,i64_w,i32_w]
         rfl
        refine pure_ (i := 23) (N := some 65) (v := ?_) (a' := ?_) #[I,I,I,I,I,I,I,I,I,I,I,I,I,I,I,I,I,I,I,I,I,I,I,I,O,O,O,O,O,O,O,O,O,O,O,O,O,O] rfl rfl (any_of HT_.out (by kernel_rfl)) (fun _ _ _ h => h) (Or.inl ⟨by rfl, ?_⟩) ?_ ?_
        rotate_left
        ·intro w'
         go_simp
         with_reducible rfl
        rotate_left
        ·simp only [Act.put,q1,q2,q3,i64_w,i32_w]
         rfl
        refine pure_ (i := 24) (N := some 66) (v := ?_) (a' := ?_) #[I,I,I,I,I,I,I,I,I,I,I,I,I,I,I,I,I,I,I,I,I,I,I,I,I,O,O,O,O,O,O,O,O,O,O,O,O,O] rfl rfl (any_of HT_.out (by kernel_rfl)) (fun _ _ _ h => h) (Or.inl ⟨by rfl, ?_⟩) ?_ ?_
        rotate_left
        ·intro w'
         go_simp
         with_reducible rfl
        rotate_left
        ·simp only [Act.put,q1,q2,q3,i64_w,i32_w]
         rfl
        refine pure_ (i := 27) (N := some 69) (v := ?_) (a' := ?_) #[I,I,I,I,I,I,I,I,I,I,I,I,I,I,I,I,I,I,I,I,I,I,I,I,I,O,O,I,O,O,O,O,O,O,O,O,O,O] rfl rfl (any_of HT_.out (by kernel_rfl)) (fun _ _ _ h => h) (Or.inl ⟨by rfl, ?_⟩) ?_ ?_
        rotate_left
        ·intro w'
         go_simp
         with_reducible rfl
        rotate_left
        ·simp only [Act.put,q1,q2,q3,i64_w,i32_w]
         rfl
        refine pure_ (i := 28) (N := some 70) (v := ?_) (a' := ?_) #[I,I,I,I,I,I,I,I,I,I,I,I,I,I,I,I,I,I,I,I,I,I,I,I,I,O,O,I,I,O,O,O,O,O,O,O,O,O] rfl rfl (any_of HT_.out (by kernel_rfl)) (fun _ _ _ h => h) (Or.inl ⟨by rfl, ?_⟩) ?_ ?_
        rotate_left
        ·intro w'
         go_simp
         with_reducible rfl
        rotate_left
        ·simp only [Act.put,q1,q2,q3,i64_w,i32_w]
         rfl
        refine one_ (i := 25) (N := some 67) #[I,I,I,I,I,I,I,I,I,I,I,I,I,I,I,I,I,I,I,I,I,I,I,I,I,I,O,I,I,O,O,O,O,O,O,O,O,O] rfl rfl (one_of HT_.out (by kernel_rfl)) (by decide) (fun K hK => ?_)
        refine goes_ Try.func10 (by kernel_rfl) rfl #[.int .i64 (wrap64 (t181))] (by rfl) rfl rfl (by (try simp only [List.map_toArray, List.map_cons, List.map_nil]); first | done | rfl | (simp only [List.length_drop, List.length_take]; rfl)) ?_
        with_reducible refine (leb_Zig.calls (wrap64 (t181)) t192 _ A23.out).mono ?_
        rintro e w' ⟨rfl, ⟨nd, rfl⟩⟩
        refine ⟨_, rfl, ?_⟩
        refine hK.out _ _ (own_string (P := Try.prog) Try.underlying23 Try.underlying5 Try.underlying9 (Kd.own_of_R (by (with_reducible repeat (first | apply Kd.R_alloc | apply Kd.R_drewN | apply Kd.R_drew)); exact HO184.out))) (fun hHeld => ?_)
        clear hK K
        refine norm_ (a' := ?_) ?_ ?_
        rotate_left
        ·show Act.put _ (some 67) _ = _
         simp only [Act.put,q1,q2,q3,i64_w,i32_w]
         rfl
        refine one_ (i := 26) (N := some 68) #[I,I,I,I,I,I,I,I,I,I,I,I,I,I,I,I,I,I,I,I,I,I,I,I,I,I,I,I,I,O,O,O,O,O,O,O,O,O] rfl rfl (one_of HT_.out (by kernel_rfl)) (by decide) (fun K hK => ?_)
        refine goes_ Try.func8 (by kernel_rfl) rfl #[.int .u64 t192] (by rfl) rfl rfl (by (try simp only [List.map_toArray, List.map_cons, List.map_nil]); first | done | rfl | (simp only [List.length_drop, List.length_take]; rfl)) ?_
        with_reducible refine (leb_Zag.calls t192 t193 _ A24.out).mono ?_
        rintro e w' ⟨rfl, ⟨nd, rfl⟩⟩
        refine ⟨_, rfl, ?_⟩
        refine hK.out _ _ (own_string (P := Try.prog) Try.underlying23 Try.underlying5 Try.underlying9 (Kd.own_of_R (by (with_reducible repeat (first | apply Kd.R_alloc | apply Kd.R_drewN | apply Kd.R_drew)); exact HO184.out))) (fun hHeld => ?_)
        clear hK K
        refine norm_ (a' := ?_) ?_ ?_
        rotate_left
        ·show Act.put _ (some 68) _ = _
         simp only [Act.put,q1,q2,q3,i64_w,i32_w]
         rfl
        refine pure_ (i := 29) (N := some 71) (v := ?_) (a' := ?_) #[I,I,I,I,I,I,I,I,I,I,I,I,I,I,I,I,I,I,I,I,I,I,I,I,I,I,I,I,I,I,O,O,O,O,O,O,O,O] rfl rfl (any_of HT_.out (by kernel_rfl)) (fun _ _ _ h => h) (Or.inl ⟨by rfl, ?_⟩) ?_ ?_
        rotate_left
        ·intro w'
         go_simp
         with_reducible rfl
        rotate_left
        ·simp only [Act.put,q1,q2,q3,i64_w,i32_w]
         rfl
        refine pure_ (i := 30) (N := some 72) (v := ?_) (a' := ?_) #[I,I,I,I,I,I,I,I,I,I,I,I,I,I,I,I,I,I,I,I,I,I,I,I,I,I,I,I,I,I,I,O,O,O,O,O,O,O] rfl rfl (any_of HT_.out (by kernel_rfl)) (fun _ _ _ h => h) (Or.inl ⟨by rfl, ?_⟩) ?_ ?_
        rotate_left
        ·intro w'
         go_simp
         with_reducible rfl
        rotate_left
        ·simp only [Act.put,q1,q2,q3,i64_w,i32_w]
         rfl
        refine pure_ (i := 31) (N := some 73) (v := ?_) (a' := ?_) #[I,I,I,I,I,I,I,I,I,I,I,I,I,I,I,I,I,I,I,I,I,I,I,I,I,I,I,I,I,I,I,I,O,O,O,O,O,O] rfl rfl (any_of HT_.out (by kernel_rfl)) (fun _ _ _ h => h) (Or.inl ⟨by rfl, ?_⟩) ?_ ?_
        rotate_left
        ·intro w'
         go_simp
         with_reducible rfl
        rotate_left
        ·simp only [Act.put,q1,q2,q3,i64_w,i32_w]
         rfl
        refine pure_ (i := 32) (N := some 74) (v := undef) (a' := ?_) #[I,I,I,I,I,I,I,I,I,I,I,I,I,I,I,I,I,I,I,I,I,I,I,I,I,I,I,I,I,I,I,I,I,O,O,O,O,O] rfl rfl (any_of HT_.out (by kernel_rfl)) (fun _ _ _ h => h) (Or.inr ⟨by rfl, rfl⟩) ?_ ?_
        rotate_left
        ·simp only [Act.put,q1,q2,q3,i64_w,i32_w]
         rfl
        refine pure_ (i := 33) (N := some 75) (v := undef) (a' := ?_) #[I,I,I,I,I,I,I,I,I,I,I,I,I,I,I,I,I,I,I,I,I,I,I,I,I,I,I,I,I,I,I,I,I,I,O,O,O,O] rfl rfl (any_of HT_.out (by kernel_rfl)) (fun _ _ _ h => h) (Or.inr ⟨by rfl, rfl⟩) ?_ ?_
        rotate_left
        ·simp only [Act.put,q1,q2,q3,i64_w,i32_w]
         rfl
        refine pure_ (i := 34) (N := some 76) (v := undef) (a' := ?_) #[I,I,I,I,I,I,I,I,I,I,I,I,I,I,I,I,I,I,I,I,I,I,I,I,I,I,I,I,I,I,I,I,I,I,I,O,O,O] rfl rfl (any_of HT_.out (by kernel_rfl)) (fun _ _ _ h => h) (Or.inr ⟨by rfl, rfl⟩) ?_ ?_
        rotate_left
        ·simp only [Act.put,q1,q2,q3,i64_w,i32_w]
         rfl
        refine pure_ (i := 35) (N := some 77) (v := undef) (a' := ?_) #[I,I,I,I,I,I,I,I,I,I,I,I,I,I,I,I,I,I,I,I,I,I,I,I,I,I,I,I,I,I,I,I,I,I,I,I,O,O] rfl rfl (any_of HT_.out (by kernel_rfl)) (fun _ _ _ h => h) (Or.inr ⟨by rfl, rfl⟩) ?_ ?_
        rotate_left
        ·simp only [Act.put,q1,q2,q3,i64_w,i32_w]
         rfl
        refine pure_ (i := 36) (N := some 78) (v := undef) (a' := ?_) #[I,I,I,I,I,I,I,I,I,I,I,I,I,I,I,I,I,I,I,I,I,I,I,I,I,I,I,I,I,I,I,I,I,I,I,I,I,O] rfl rfl (any_of HT_.out (by kernel_rfl)) (fun _ _ _ h => h) (Or.inr ⟨by rfl, rfl⟩) ?_ ?_
        rotate_left
        ·simp only [Act.put,q1,q2,q3,i64_w,i32_w]
         rfl
        refine pure_ (i := 37) (N := some 79) (v := ?_) (a' := ?_) #[I,I,I,I,I,I,I,I,I,I,I,I,I,I,I,I,I,I,I,I,I,I,I,I,I,I,I,I,I,I,I,I,I,I,I,I,I,I] rfl rfl (any_of HT_.out (by kernel_rfl)) (fun _ _ _ h => h) (Or.inl ⟨by rfl, ?_⟩) ?_ ?_
        rotate_left
        ·intro w'
         go_simp
         with_reducible rfl
        rotate_left
        ·simp only [Act.put,q1,q2,q3,i64_w,i32_w]
         rfl
        refine done_ (done_of HT_.out (by kernel_rfl)) ?_
        try go_wp2
        go_meet
        case rel => exact ⟨_, (true), (by first | rfl | (simp; done) | (simp [*]; done)), H', ⟨by first | omega | exact Nat.le_refl _⟩, ⟨by (with_reducible repeat (first | apply Kd.V_alloc | apply Kd.V_drewN | apply Kd.V_drew)); exact Kd.V_mono HO2.out (fun _ hk => by first | exact ⟨hk.1, hk.2.1⟩ | exact hk | exact hk.1 | exact hk.1.1 | exact hk.1.1.1 | exact hk.2)⟩, ⟨by (with_reducible repeat (first | apply Kd.R_alloc | apply Kd.R_drewN | apply Kd.R_drew)); exact Kd.R_mono HO184.out (fun _ hk => by first | exact hk.1 | exact hk | exact hk.1 | exact hk.1.1 | exact hk.1.1.1 | exact hk.2)⟩, ⟨by repeat (first | (with_reducible first | exact HB.out | apply below_alloc | apply pw_below_drewN | apply below_drew1) | exact HB.out)⟩⟩
      ·rw [if_neg c22] at H
       have c22b0 : (t190 == t191) = false := beq_eq_false_iff_ne.mpr c22
       have c22b1 : (t190 != t191) = true := bne_iff_ne.mpr c22
       have H' := Aside0.mk H
       clear H
       try go_wp2
       have n0_ := Aside0.mk (Kd.V_drew HO2.out)
       have n1_ := Aside0.mk (Kd.R_drew HO184.out)
       have n2_ := Aside0.mk (below_drew1 HB.out)
       clear HO2
       clear HO184
       clear HB
       have HO2 := n0_
       have HO184 := n1_
       have HB := n2_
       clear n0_ n1_ n2_
       refine start_ (n := 38) (S := fun w' => Sem.run Try.prog (convert 23 9 v183) w' = Result.ok (.string (strOfNums t182)) w') (ds := []) #[O,O,O,O,O,O,O,O,O,O,O,O,O,O,O,O,O,O,O,O,O,O,O,O,O,O,O,O,O,O,O,O,O,O,O,O,O,O] (by kernel_rfl) rfl rfl (own_string (P := Try.prog) Try.underlying23 Try.underlying5 Try.underlying9 (Kd.own_of_R (by (with_reducible repeat (first | apply Kd.R_alloc | apply Kd.R_drewN | apply Kd.R_drew)); exact HO184.out))) (fun hHeld => ?_); refine with_tabW repriselaw1_LebTells.tab7 repriselaw1_LebTells.bits7 (fun HT_ HW_ => ?_)
       generalize w14.drew = w38 at HO2 HO184 HB hHeld ⊢
       refine pure_ (i := 0) (N := some 42) (v := ?_) (a' := ?_) #[I,O,O,O,O,O,O,O,O,O,O,O,O,O,O,O,O,O,O,O,O,O,O,O,O,O,O,O,O,O,O,O,O,O,O,O,O,O] rfl rfl (any_of HT_.out (by kernel_rfl)) (fun _ _ _ h => h) (Or.inl ⟨by rfl, ?_⟩) ?_ ?_
       rotate_left
       ·intro w'
        go_simp
        with_reducible rfl
       rotate_left
       ·simp only [Act.put,q1,q2,q3,i64_w,i32_w]
        rfl
       refine pure_ (i := 3) (N := some 45) (v := ?_) (a' := ?_) #[I,O,O,I,O,O,O,O,O,O,O,O,O,O,O,O,O,O,O,O,O,O,O,O,O,O,O,O,O,O,O,O,O,O,O,O,O,O] rfl rfl (any_of HT_.out (by kernel_rfl)) (fun _ _ _ h => h) (Or.inl ⟨by rfl, ?_⟩) ?_ ?_
       rotate_left
       ·intro w'
        go_simp
        with_reducible rfl
       rotate_left
       ·simp only [Act.put,q1,q2,q3,i64_w,i32_w]
        rfl
       refine take_ (i := 4) (N := some 46) (v := ?_) (a' := ?_) #[I,O,O,I,I,O,O,O,O,O,O,O,O,O,O,O,O,O,O,O,O,O,O,O,O,O,O,O,O,O,O,O,O,O,O,O,O,O] rfl rfl (take_ofW HT_.out HW_.out (by kernel_rfl)) (fun _ _ _ h => h) (Or.inl ⟨by rfl, ?_⟩) hHeld ?_ ?_
       rotate_left
       ·intro w' hs4
        go_simp
        rfl
       rotate_left
       ·simp only [Act.put,q1,q2,q3,i64_w,i32_w]
        rfl
       refine one_ (i := 1) (N := some 43) #[I,I,O,I,I,O,O,O,O,O,O,O,O,O,O,O,O,O,O,O,O,O,O,O,O,O,O,O,O,O,O,O,O,O,O,O,O,O] rfl rfl (one_of HT_.out (by kernel_rfl)) (by decide) (fun K hK => ?_)
       refine goes_ Try.func7 (by kernel_rfl) rfl #[.int .u64 t181] (by rfl) rfl rfl (by (try simp only [List.map_toArray, List.map_cons, List.map_nil]); first | done | rfl | (simp only [List.length_drop, List.length_take]; rfl)) ?_
       with_reducible refine (leb_Put.calls k t181 t185 _ A15.out).mono ?_
       rintro e w39 ⟨v186, rfl, ho0, hb⟩
       refine ⟨_, rfl, ?_⟩
       have n0_ := Aside0.mk (Kd.V_elder' (by (with_reducible repeat (first | apply Kd.V_alloc | apply Kd.V_drewN | apply Kd.V_drew)); exact HO2.out) (Kd.R_base ho0) hb)
       have n1_ := Aside0.mk (Kd.R_elder' (by (with_reducible repeat (first | apply Kd.R_alloc | apply Kd.R_drewN | apply Kd.R_drew)); exact HO184.out) (Kd.R_base ho0) hb)
       have n2_ := Aside0.mk (Kd.R_lower (Kd.R_new' (Kd.R_newM (M := fun k_ => (w.heap.size ≤ k_)) ho0 (below_size (by repeat (first | (with_reducible first | exact HB.out | apply below_alloc | apply pw_below_drewN | apply below_drew1) | exact HB.out))) (fun k_ h_ => h_)) (Kd.R_lt (by (with_reducible repeat (first | apply Kd.R_alloc | apply Kd.R_drewN | apply Kd.R_drew)); exact HO184.out))) (below_size (by repeat (first | (with_reducible first | exact HB.out | apply below_alloc | apply pw_below_drewN | apply below_drew1) | exact HB.out))))
       have n3_ := Aside0.mk (below_step (by repeat (first | (with_reducible first | exact HB.out | apply below_alloc | apply pw_below_drewN | apply below_drew1) | exact HB.out)) hb)
       clear HO2
       clear HO184
       clear HB
       have HO2 := n0_
       have HO184 := n1_
       have HO187 := n2_
       have HB := n3_
       clear n0_ n1_ n2_ n3_
       (try clear hb)
       (try clear hb2)
       (try clear hk)
       (try clear hi)
       (try clear ho0)
       have hcv41 := own_string (P := Try.prog) Try.underlying23 Try.underlying5 Try.underlying9 (Kd.own_of_R HO184.out)
       refine hK.out _ _ (own_string (P := Try.prog) Try.underlying23 Try.underlying5 Try.underlying9 (Kd.own_of_R (by (with_reducible repeat (first | apply Kd.R_alloc | apply Kd.R_drewN | apply Kd.R_drew)); exact HO184.out))) (fun hHeld => ?_)
       clear hK K
       refine norm_ (a' := ?_) ?_ ?_
       rotate_left
       ·show Act.put _ (some 43) _ = _
        simp only [Act.put,q1,q2,q3,i64_w,i32_w]
        rfl
       refine one_ (i := 2) (N := some 44) #[I,I,I,I,I,O,O,O,O,O,O,O,O,O,O,O,O,O,O,O,O,O,O,O,O,O,O,O,O,O,O,O,O,O,O,O,O,O] rfl rfl (one_of HT_.out (by kernel_rfl)) (by decide) (fun K hK => ?_)
       have hcv40 := own_string (P := Try.prog) Try.underlying23 Try.underlying5 Try.underlying9 (Kd.own_of_R HO187.out)
       refine value_ (w1 := ?_) (v := ?_) (by rfl) rfl ?_ ?_
       rotate_left 2
       ·go_simp
        constructor
        ·rfl
        ·rfl
       clear hcv40
       refine hK.out _ _ (own_string (P := Try.prog) Try.underlying23 Try.underlying5 Try.underlying9 (Kd.own_of_R (by (with_reducible repeat (first | apply Kd.R_alloc | apply Kd.R_drewN | apply Kd.R_drew)); exact HO184.out))) (fun hHeld => ?_)
       clear hK K
       refine norm_ (a' := ?_) ?_ ?_
       rotate_left
       ·show Act.put _ (some 44) _ = _
        simp only [Act.put,q1,q2,q3,i64_w,i32_w]
        rfl
       refine pure_ (i := 5) (N := some 47) (v := ?_) (a' := ?_) #[I,I,I,I,I,I,O,O,O,O,O,O,O,O,O,O,O,O,O,O,O,O,O,O,O,O,O,O,O,O,O,O,O,O,O,O,O,O] rfl rfl (any_of HT_.out (by kernel_rfl)) (fun _ _ _ h => h) (Or.inl ⟨by rfl, ?_⟩) ?_ ?_
       rotate_left
       ·intro w'
        go_simp
        with_reducible rfl
       rotate_left
       ·simp only [Act.put,q1,q2,q3,i64_w,i32_w]
        rfl
       refine pure_ (i := 6) (N := some 48) (v := ?_) (a' := ?_) #[I,I,I,I,I,I,I,O,O,O,O,O,O,O,O,O,O,O,O,O,O,O,O,O,O,O,O,O,O,O,O,O,O,O,O,O,O,O] rfl rfl (any_of HT_.out (by kernel_rfl)) (fun _ _ _ h => h) (Or.inl ⟨by rfl, ?_⟩) ?_ ?_
       rotate_left
       ·intro w'
        go_simp
        with_reducible rfl
       rotate_left
       ·simp only [Act.put,q1,q2,q3,i64_w,i32_w]
        rfl
       refine pure_ (i := 7) (N := some 49) (v := ?_) (a' := ?_) #[I,I,I,I,I,I,I,I,O,O,O,O,O,O,O,O,O,O,O,O,O,O,O,O,O,O,O,O,O,O,O,O,O,O,O,O,O,O] rfl rfl (any_of HT_.out (by kernel_rfl)) (fun _ _ _ h => h) (Or.inl ⟨by rfl, ?_⟩) ?_ ?_
       rotate_left
       ·intro w'
        go_simp
        with_reducible rfl
       rotate_left
       ·simp only [Act.put,q1,q2,q3,i64_w,i32_w]
        rfl
       refine pure_ (i := 9) (N := some 51) (v := ?_) (a' := ?_) #[I,I,I,I,I,I,I,I,O,I,O,O,O,O,O,O,O,O,O,O,O,O,O,O,O,O,O,O,O,O,O,O,O,O,O,O,O,O] rfl rfl (any_of HT_.out (by kernel_rfl)) (fun _ _ _ h => h) (Or.inl ⟨by rfl, ?_⟩) ?_ ?_
       rotate_left
       ·intro w'
        go_simp
        with_reducible rfl
       rotate_left
       ·simp only [Act.put,q1,q2,q3,i64_w,i32_w]
        rfl
       refine one_ (i := 8) (N := some 50) #[I,I,I,I,I,I,I,I,I,I,O,O,O,O,O,O,O,O,O,O,O,O,O,O,O,O,O,O,O,O,O,O,O,O,O,O,O,O] rfl rfl (one_of HT_.out (by kernel_rfl)) (by decide) (fun K hK => ?_)
       refine goes_ Try.func8 (by kernel_rfl) rfl #[.int .u64 t181] (by rfl) rfl rfl (by (try simp only [List.map_toArray, List.map_cons, List.map_nil]); first | done | rfl | (simp only [List.length_drop, List.length_take]; rfl)) ?_
       with_reducible refine (leb_Zag.calls t181 t188 _ A17.out).mono ?_
       rintro e w' ⟨rfl, ⟨nd, rfl⟩⟩
       refine ⟨_, rfl, ?_⟩
       refine hK.out _ _ (own_string (P := Try.prog) Try.underlying23 Try.underlying5 Try.underlying9 (Kd.own_of_R (by (with_reducible repeat (first | apply Kd.R_alloc | apply Kd.R_drewN | apply Kd.R_drew)); exact HO184.out))) (fun hHeld => ?_)
       clear hK K
       refine norm_ (a' := ?_) ?_ ?_
       rotate_left
       ·show Act.put _ (some 50) _ = _
        simp only [Act.put,q1,q2,q3,i64_w,i32_w]
        rfl
       refine one_ (i := 10) (N := some 52) #[I,I,I,I,I,I,I,I,I,I,I,O,O,O,O,O,O,O,O,O,O,O,O,O,O,O,O,O,O,O,O,O,O,O,O,O,O,O] rfl rfl (one_of HT_.out (by kernel_rfl)) (by decide) (fun K hK => ?_)
       refine goes_ Try.func9 (by kernel_rfl) rfl #[.int .u64 t181] (by rfl) rfl rfl (by (try simp only [List.map_toArray, List.map_cons, List.map_nil]); first | done | rfl | (simp only [List.length_drop, List.length_take]; rfl)) ?_
       with_reducible refine (repriseref1_Zag.calls t181 t189 _ A18.out).mono ?_
       rintro e w' ⟨rfl, ⟨nd, rfl⟩⟩
       refine ⟨_, rfl, ?_⟩
       refine hK.out _ _ (own_string (P := Try.prog) Try.underlying23 Try.underlying5 Try.underlying9 (Kd.own_of_R (by (with_reducible repeat (first | apply Kd.R_alloc | apply Kd.R_drewN | apply Kd.R_drew)); exact HO184.out))) (fun hHeld => ?_)
       clear hK K
       refine norm_ (a' := ?_) ?_ ?_
       rotate_left
       ·show Act.put _ (some 52) _ = _
        simp only [Act.put,q1,q2,q3,i64_w,i32_w]
        rfl
       refine pure_ (i := 11) (N := some 53) (v := ?_) (a' := ?_) #[I,I,I,I,I,I,I,I,I,I,I,I,O,O,O,O,O,O,O,O,O,O,O,O,O,O,O,O,O,O,O,O,O,O,O,O,O,O] rfl rfl (any_of HT_.out (by kernel_rfl)) (fun _ _ _ h => h) (Or.inl ⟨by rfl, ?_⟩) ?_ ?_
       rotate_left
       ·intro w'
        go_simp
        with_reducible rfl
       rotate_left
       ·simp only [Act.put,q1,q2,q3,i64_w,i32_w]
        rfl
       refine pure_ (i := 12) (N := some 54) (v := ?_) (a' := ?_) #[I,I,I,I,I,I,I,I,I,I,I,I,I,O,O,O,O,O,O,O,O,O,O,O,O,O,O,O,O,O,O,O,O,O,O,O,O,O] rfl rfl (any_of HT_.out (by kernel_rfl)) (fun _ _ _ h => h) (Or.inl ⟨by rfl, ?_⟩) ?_ ?_
       rotate_left
       ·intro w'
        go_simp
        with_reducible rfl
       rotate_left
       ·simp only [Act.put,q1,q2,q3,i64_w,i32_w]
        rfl
       refine pure_ (i := 13) (N := some 55) (v := ?_) (a' := ?_) #[I,I,I,I,I,I,I,I,I,I,I,I,I,I,O,O,O,O,O,O,O,O,O,O,O,O,O,O,O,O,O,O,O,O,O,O,O,O] rfl rfl (any_of HT_.out (by kernel_rfl)) (fun _ _ _ h => h) (Or.inl ⟨by rfl, ?_⟩) ?_ ?_
       rotate_left
       ·intro w'
        go_simp
        with_reducible rfl
       rotate_left
       ·simp only [Act.put,q1,q2,q3,i64_w,i32_w]
        rfl
       refine pure_ (i := 14) (N := some 56) (v := ?_) (a' := ?_) #[I,I,I,I,I,I,I,I,I,I,I,I,I,I,I,O,O,O,O,O,O,O,O,O,O,O,O,O,O,O,O,O,O,O,O,O,O,O] rfl rfl (any_of HT_.out (by kernel_rfl)) (fun _ _ _ h => h) (Or.inl ⟨by rfl, ?_⟩) ?_ ?_
       rotate_left
       ·intro w'
        go_simp
        with_reducible rfl
       rotate_left
       ·simp only [Act.put,q1,q2,q3,i64_w,i32_w]
        rfl
       refine pure_ (i := 15) (N := some 57) (v := ?_) (a' := ?_) #[I,I,I,I,I,I,I,I,I,I,I,I,I,I,I,I,O,O,O,O,O,O,O,O,O,O,O,O,O,O,O,O,O,O,O,O,O,O] rfl rfl (any_of HT_.out (by kernel_rfl)) (fun _ _ _ h => h) (Or.inl ⟨by rfl, ?_⟩) ?_ ?_
       rotate_left
       ·intro w'
        go_simp
        with_reducible rfl
       rotate_left
       ·simp only [Act.put,q1,q2,q3,i64_w,i32_w]
        rfl
       refine pure_ (i := 17) (N := some 59) (v := ?_) (a' := ?_) #[I,I,I,I,I,I,I,I,I,I,I,I,I,I,I,I,O,I,O,O,O,O,O,O,O,O,O,O,O,O,O,O,O,O,O,O,O,O] rfl rfl (any_of HT_.out (by kernel_rfl)) (fun _ _ _ h => h) (Or.inl ⟨by rfl, ?_⟩) ?_ ?_
       rotate_left
       ·intro w'
        go_simp
        with_reducible rfl
       rotate_left
       ·simp only [Act.put,q1,q2,q3,i64_w,i32_w]
        rfl
       refine pure_ (i := 18) (N := some 60) (v := ?_) (a' := ?_) #[I,I,I,I,I,I,I,I,I,I,I,I,I,I,I,I,O,I,I,O,O,O,O,O,O,O,O,O,O,O,O,O,O,O,O,O,O,O] rfl rfl (any_of HT_.out (by kernel_rfl)) (fun _ _ _ h => h) (Or.inl ⟨by rfl, ?_⟩) ?_ ?_
       rotate_left
       ·intro w'
        go_simp
        with_reducible rfl
       rotate_left
       ·simp only [Act.put,q1,q2,q3,i64_w,i32_w]
        rfl
       refine one_ (i := 16) (N := some 58) #[I,I,I,I,I,I,I,I,I,I,I,I,I,I,I,I,I,I,I,O,O,O,O,O,O,O,O,O,O,O,O,O,O,O,O,O,O,O] rfl rfl (one_of HT_.out (by kernel_rfl)) (by decide) (fun K hK => ?_)
       refine goes_ Try.func10 (by kernel_rfl) rfl #[.int .i64 (wrap64 (t181))] (by rfl) rfl rfl (by (try simp only [List.map_toArray, List.map_cons, List.map_nil]); first | done | rfl | (simp only [List.length_drop, List.length_take]; rfl)) ?_
       with_reducible refine (leb_Zig.calls (wrap64 (t181)) t190 _ A20.out).mono ?_
       rintro e w' ⟨rfl, ⟨nd, rfl⟩⟩
       refine ⟨_, rfl, ?_⟩
       refine hK.out _ _ (own_string (P := Try.prog) Try.underlying23 Try.underlying5 Try.underlying9 (Kd.own_of_R (by (with_reducible repeat (first | apply Kd.R_alloc | apply Kd.R_drewN | apply Kd.R_drew)); exact HO184.out))) (fun hHeld => ?_)
       clear hK K
       refine norm_ (a' := ?_) ?_ ?_
       rotate_left
       ·show Act.put _ (some 58) _ = _
        simp only [Act.put,q1,q2,q3,i64_w,i32_w]
        rfl
       refine one_ (i := 19) (N := some 61) #[I,I,I,I,I,I,I,I,I,I,I,I,I,I,I,I,I,I,I,I,O,O,O,O,O,O,O,O,O,O,O,O,O,O,O,O,O,O] rfl rfl (one_of HT_.out (by kernel_rfl)) (by decide) (fun K hK => ?_)
       refine goes_ Try.func11 (by kernel_rfl) rfl #[.int .i64 (wrap64 (t181))] (by rfl) rfl rfl (by (try simp only [List.map_toArray, List.map_cons, List.map_nil]); first | done | rfl | (simp only [List.length_drop, List.length_take]; rfl)) ?_
       with_reducible refine (repriseref1_Zig.calls (wrap64 (t181)) t191 _ A21.out).mono ?_
       rintro e w' ⟨rfl, ⟨nd, rfl⟩⟩
       refine ⟨_, rfl, ?_⟩
       refine hK.out _ _ (own_string (P := Try.prog) Try.underlying23 Try.underlying5 Try.underlying9 (Kd.own_of_R (by (with_reducible repeat (first | apply Kd.R_alloc | apply Kd.R_drewN | apply Kd.R_drew)); exact HO184.out))) (fun hHeld => ?_)
       clear hK K
       refine norm_ (a' := ?_) ?_ ?_
       rotate_left
       ·show Act.put _ (some 61) _ = _
        simp only [Act.put,q1,q2,q3,i64_w,i32_w]
        rfl
       refine pure_ (i := 20) (N := some 62) (v := ?_) (a' := ?_) #[I,I,I,I,I,I,I,I,I,I,I,I,I,I,I,I,I,I,I,I,I,O,O,O,O,O,O,O,O,O,O,O,O,O,O,O,O,O] rfl rfl (any_of HT_.out (by kernel_rfl)) (fun _ _ _ h => h) (Or.inl ⟨by rfl, ?_⟩) ?_ ?_
       rotate_left
       ·intro w'
        go_simp
        with_reducible rfl
       rotate_left
       ·simp only [Act.put,q1,q2,q3,i64_w,i32_w]
        rfl
       refine pure_ (i := 21) (N := some 63) (v := ?_) (a' := ?_) #[I,I,I,I,I,I,I,I,I,I,I,I,I,I,I,I,I,I,I,I,I,I,O,O,O,O,O,O,O,O,O,O,O,O,O,O,O,O] rfl rfl (any_of HT_.out (by kernel_rfl)) (fun _ _ _ h => h) (Or.inl ⟨by rfl, ?_⟩) ?_ ?_
       rotate_left
       ·intro w'
        go_simp
        with_reducible rfl
       rotate_left
       ·simp only [Act.put,q1,q2,q3,i64_w,i32_w]
        rfl
       refine pure_ (i := 22) (N := some 64) (v := ?_) (a' := ?_) #[I,I,I,I,I,I,I,I,I,I,I,I,I,I,I,I,I,I,I,I,I,I,I,O,O,O,O,O,O,O,O,O,O,O,O,O,O,O] rfl rfl (any_of HT_.out (by kernel_rfl)) (fun _ _ _ h => h) (Or.inl ⟨by rfl, ?_⟩) ?_ ?_
       rotate_left
       ·intro w'
        go_simp
        with_reducible rfl
       rotate_left
       ·simp only [Act.put,q1,q2,q3,i64_w,i32_w]
        rfl
       refine pure_ (i := 23) (N := some 65) (v := undef) (a' := ?_) #[I,I,I,I,I,I,I,I,I,I,I,I,I,I,I,I,I,I,I,I,I,I,I,I,O,O,O,O,O,O,O,O,O,O,O,O,O,O] rfl rfl (any_of HT_.out (by kernel_rfl)) (fun _ _ _ h => h) (Or.inr ⟨by rfl, rfl⟩) ?_ ?_
       rotate_left
       ·simp only [Act.put,q1,q2,q3,i64_w,i32_w]
        rfl
       refine pure_ (i := 24) (N := some 66) (v := undef) (a' := ?_) #[I,I,I,I,I,I,I,I,I,I,I,I,I,I,I,I,I,I,I,I,I,I,I,I,I,O,O,O,O,O,O,O,O,O,O,O,O,O] rfl rfl (any_of HT_.out (by kernel_rfl)) (fun _ _ _ h => h) (Or.inr ⟨by rfl, rfl⟩) ?_ ?_
       rotate_left
       ·simp only [Act.put,q1,q2,q3,i64_w,i32_w]
        rfl
       refine pure_ (i := 25) (N := some 67) (v := undef) (a' := ?_) #[I,I,I,I,I,I,I,I,I,I,I,I,I,I,I,I,I,I,I,I,I,I,I,I,I,I,O,O,O,O,O,O,O,O,O,O,O,O] rfl rfl (any_of HT_.out (by kernel_rfl)) (fun _ _ _ h => h) (Or.inr ⟨by rfl, rfl⟩) ?_ ?_
       rotate_left
       ·simp only [Act.put,q1,q2,q3,i64_w,i32_w]
        rfl
       refine pure_ (i := 26) (N := some 68) (v := undef) (a' := ?_) #[I,I,I,I,I,I,I,I,I,I,I,I,I,I,I,I,I,I,I,I,I,I,I,I,I,I,I,O,O,O,O,O,O,O,O,O,O,O] rfl rfl (any_of HT_.out (by kernel_rfl)) (fun _ _ _ h => h) (Or.inr ⟨by rfl, rfl⟩) ?_ ?_
       rotate_left
       ·simp only [Act.put,q1,q2,q3,i64_w,i32_w]
        rfl
       refine pure_ (i := 27) (N := some 69) (v := undef) (a' := ?_) #[I,I,I,I,I,I,I,I,I,I,I,I,I,I,I,I,I,I,I,I,I,I,I,I,I,I,I,I,O,O,O,O,O,O,O,O,O,O] rfl rfl (any_of HT_.out (by kernel_rfl)) (fun _ _ _ h => h) (Or.inr ⟨by rfl, rfl⟩) ?_ ?_
       rotate_left
       ·simp only [Act.put,q1,q2,q3,i64_w,i32_w]
        rfl
       refine pure_ (i := 28) (N := some 70) (v := undef) (a' := ?_) #[I,I,I,I,I,I,I,I,I,I,I,I,I,I,I,I,I,I,I,I,I,I,I,I,I,I,I,I,I,O,O,O,O,O,O,O,O,O] rfl rfl (any_of HT_.out (by kernel_rfl)) (fun _ _ _ h => h) (Or.inr ⟨by rfl, rfl⟩) ?_ ?_
       rotate_left
       ·simp only [Act.put,q1,q2,q3,i64_w,i32_w]
        rfl
       refine pure_ (i := 29) (N := some 71) (v := undef) (a' := ?_) #[I,I,I,I,I,I,I,I,I,I,I,I,I,I,I,I,I,I,I,I,I,I,I,I,I,I,I,I,I,I,O,O,O,O,O,O,O,O] rfl rfl (any_of HT_.out (by kernel_rfl)) (fun _ _ _ h => h) (Or.inr ⟨by rfl, rfl⟩) ?_ ?_
       rotate_left
       ·simp only [Act.put,q1,q2,q3,i64_w,i32_w]
        rfl
       refine pure_ (i := 30) (N := some 72) (v := ?_) (a' := ?_) #[I,I,I,I,I,I,I,I,I,I,I,I,I,I,I,I,I,I,I,I,I,I,I,I,I,I,I,I,I,I,I,O,O,O,O,O,O,O] rfl rfl (any_of HT_.out (by kernel_rfl)) (fun _ _ _ h => h) (Or.inl ⟨by rfl, ?_⟩) ?_ ?_
       rotate_left
       ·intro w'
        go_simp
        with_reducible rfl
       rotate_left
       ·simp only [Act.put,q1,q2,q3,i64_w,i32_w]
        rfl
       refine pure_ (i := 31) (N := some 73) (v := ?_) (a' := ?_) #[I,I,I,I,I,I,I,I,I,I,I,I,I,I,I,I,I,I,I,I,I,I,I,I,I,I,I,I,I,I,I,I,O,O,O,O,O,O] rfl rfl (any_of HT_.out (by kernel_rfl)) (fun _ _ _ h => h) (Or.inl ⟨by rfl, ?_⟩) ?_ ?_
       rotate_left
       ·intro w'
        go_simp
        with_reducible rfl
       rotate_left
       ·simp only [Act.put,q1,q2,q3,i64_w,i32_w]
        rfl
       refine pure_ (i := 32) (N := some 74) (v := undef) (a' := ?_) #[I,I,I,I,I,I,I,I,I,I,I,I,I,I,I,I,I,I,I,I,I,I,I,I,I,I,I,I,I,I,I,I,I,O,O,O,O,O] rfl rfl (any_of HT_.out (by kernel_rfl)) (fun _ _ _ h => h) (Or.inr ⟨by rfl, rfl⟩) ?_ ?_
       rotate_left
       ·simp only [Act.put,q1,q2,q3,i64_w,i32_w]
        rfl
       refine pure_ (i := 33) (N := some 75) (v := undef) (a' := ?_) #[I,I,I,I,I,I,I,I,I,I,I,I,I,I,I,I,I,I,I,I,I,I,I,I,I,I,I,I,I,I,I,I,I,I,O,O,O,O] rfl rfl (any_of HT_.out (by kernel_rfl)) (fun _ _ _ h => h) (Or.inr ⟨by rfl, rfl⟩) ?_ ?_
       rotate_left
       ·simp only [Act.put,q1,q2,q3,i64_w,i32_w]
        rfl
       refine pure_ (i := 34) (N := some 76) (v := undef) (a' := ?_) #[I,I,I,I,I,I,I,I,I,I,I,I,I,I,I,I,I,I,I,I,I,I,I,I,I,I,I,I,I,I,I,I,I,I,I,O,O,O] rfl rfl (any_of HT_.out (by kernel_rfl)) (fun _ _ _ h => h) (Or.inr ⟨by rfl, rfl⟩) ?_ ?_
       rotate_left
       ·simp only [Act.put,q1,q2,q3,i64_w,i32_w]
        rfl
       refine pure_ (i := 35) (N := some 77) (v := undef) (a' := ?_) #[I,I,I,I,I,I,I,I,I,I,I,I,I,I,I,I,I,I,I,I,I,I,I,I,I,I,I,I,I,I,I,I,I,I,I,I,O,O] rfl rfl (any_of HT_.out (by kernel_rfl)) (fun _ _ _ h => h) (Or.inr ⟨by rfl, rfl⟩) ?_ ?_
       rotate_left
       ·simp only [Act.put,q1,q2,q3,i64_w,i32_w]
        rfl
       refine pure_ (i := 36) (N := some 78) (v := undef) (a' := ?_) #[I,I,I,I,I,I,I,I,I,I,I,I,I,I,I,I,I,I,I,I,I,I,I,I,I,I,I,I,I,I,I,I,I,I,I,I,I,O] rfl rfl (any_of HT_.out (by kernel_rfl)) (fun _ _ _ h => h) (Or.inr ⟨by rfl, rfl⟩) ?_ ?_
       rotate_left
       ·simp only [Act.put,q1,q2,q3,i64_w,i32_w]
        rfl
       refine pure_ (i := 37) (N := some 79) (v := ?_) (a' := ?_) #[I,I,I,I,I,I,I,I,I,I,I,I,I,I,I,I,I,I,I,I,I,I,I,I,I,I,I,I,I,I,I,I,I,I,I,I,I,I] rfl rfl (any_of HT_.out (by kernel_rfl)) (fun _ _ _ h => h) (Or.inl ⟨by rfl, ?_⟩) ?_ ?_
       rotate_left
       ·intro w'
        go_simp
        with_reducible rfl
       rotate_left
       ·simp only [Act.put,q1,q2,q3,i64_w,i32_w]
        rfl
       refine done_ (done_of HT_.out (by kernel_rfl)) ?_
       try go_wp2
       go_meet
       case rel => exact ⟨_, (true), (by first | rfl | (simp; done) | (simp [*]; done)), H', ⟨by first | omega | exact Nat.le_refl _⟩, ⟨by (with_reducible repeat (first | apply Kd.V_alloc | apply Kd.V_drewN | apply Kd.V_drew)); exact Kd.V_mono HO2.out (fun _ hk => by first | exact ⟨hk.1, hk.2.1⟩ | exact hk | exact hk.1 | exact hk.1.1 | exact hk.1.1.1 | exact hk.2)⟩, ⟨by (with_reducible repeat (first | apply Kd.R_alloc | apply Kd.R_drewN | apply Kd.R_drew)); exact Kd.R_mono HO184.out (fun _ hk => by first | exact hk.1 | exact hk | exact hk.1 | exact hk.1.1 | exact hk.1.1.1 | exact hk.2)⟩, ⟨by repeat (first | (with_reducible first | exact HB.out | apply below_alloc | apply pw_below_drewN | apply below_drew1) | exact HB.out)⟩⟩
     ·rw [if_neg c19] at H
      have c19b0 : (t188 == t189) = false := beq_eq_false_iff_ne.mpr c19
      have c19b1 : (t188 != t189) = true := bne_iff_ne.mpr c19
      have H' := Aside0.mk H
      clear H
      try go_wp2
      have n0_ := Aside0.mk (Kd.V_drew HO2.out)
      have n1_ := Aside0.mk (Kd.R_drew HO184.out)
      have n2_ := Aside0.mk (below_drew1 HB.out)
      clear HO2
      clear HO184
      clear HB
      have HO2 := n0_
      have HO184 := n1_
      have HB := n2_
      clear n0_ n1_ n2_
      refine start_ (n := 38) (S := fun w' => Sem.run Try.prog (convert 23 9 v183) w' = Result.ok (.string (strOfNums t182)) w') (ds := []) #[O,O,O,O,O,O,O,O,O,O,O,O,O,O,O,O,O,O,O,O,O,O,O,O,O,O,O,O,O,O,O,O,O,O,O,O,O,O] (by kernel_rfl) rfl rfl (own_string (P := Try.prog) Try.underlying23 Try.underlying5 Try.underlying9 (Kd.own_of_R (by (with_reducible repeat (first | apply Kd.R_alloc | apply Kd.R_drewN | apply Kd.R_drew)); exact HO184.out))) (fun hHeld => ?_); refine with_tabW repriselaw1_LebTells.tab7 repriselaw1_LebTells.bits7 (fun HT_ HW_ => ?_)
      generalize w14.drew = w43 at HO2 HO184 HB hHeld ⊢
      refine pure_ (i := 0) (N := some 42) (v := ?_) (a' := ?_) #[I,O,O,O,O,O,O,O,O,O,O,O,O,O,O,O,O,O,O,O,O,O,O,O,O,O,O,O,O,O,O,O,O,O,O,O,O,O] rfl rfl (any_of HT_.out (by kernel_rfl)) (fun _ _ _ h => h) (Or.inl ⟨by rfl, ?_⟩) ?_ ?_
      rotate_left
      ·intro w'
       go_simp
       with_reducible rfl
      rotate_left
      ·simp only [Act.put,q1,q2,q3,i64_w,i32_w]
       rfl
      refine pure_ (i := 3) (N := some 45) (v := ?_) (a' := ?_) #[I,O,O,I,O,O,O,O,O,O,O,O,O,O,O,O,O,O,O,O,O,O,O,O,O,O,O,O,O,O,O,O,O,O,O,O,O,O] rfl rfl (any_of HT_.out (by kernel_rfl)) (fun _ _ _ h => h) (Or.inl ⟨by rfl, ?_⟩) ?_ ?_
      rotate_left
      ·intro w'
       go_simp
       with_reducible rfl
      rotate_left
      ·simp only [Act.put,q1,q2,q3,i64_w,i32_w]
       rfl
      refine take_ (i := 4) (N := some 46) (v := ?_) (a' := ?_) #[I,O,O,I,I,O,O,O,O,O,O,O,O,O,O,O,O,O,O,O,O,O,O,O,O,O,O,O,O,O,O,O,O,O,O,O,O,O] rfl rfl (take_ofW HT_.out HW_.out (by kernel_rfl)) (fun _ _ _ h => h) (Or.inl ⟨by rfl, ?_⟩) hHeld ?_ ?_
      rotate_left
      ·intro w' hs4
       go_simp
       rfl
      rotate_left
      ·simp only [Act.put,q1,q2,q3,i64_w,i32_w]
       rfl
      refine one_ (i := 1) (N := some 43) #[I,I,O,I,I,O,O,O,O,O,O,O,O,O,O,O,O,O,O,O,O,O,O,O,O,O,O,O,O,O,O,O,O,O,O,O,O,O] rfl rfl (one_of HT_.out (by kernel_rfl)) (by decide) (fun K hK => ?_)
      refine goes_ Try.func7 (by kernel_rfl) rfl #[.int .u64 t181] (by rfl) rfl rfl (by (try simp only [List.map_toArray, List.map_cons, List.map_nil]); first | done | rfl | (simp only [List.length_drop, List.length_take]; rfl)) ?_
      with_reducible refine (leb_Put.calls k t181 t185 _ A15.out).mono ?_
      rintro e w44 ⟨v186, rfl, ho0, hb⟩
      refine ⟨_, rfl, ?_⟩
      have n0_ := Aside0.mk (Kd.V_elder' (by (with_reducible repeat (first | apply Kd.V_alloc | apply Kd.V_drewN | apply Kd.V_drew)); exact HO2.out) (Kd.R_base ho0) hb)
      have n1_ := Aside0.mk (Kd.R_elder' (by (with_reducible repeat (first | apply Kd.R_alloc | apply Kd.R_drewN | apply Kd.R_drew)); exact HO184.out) (Kd.R_base ho0) hb)
      have n2_ := Aside0.mk (Kd.R_lower (Kd.R_new' (Kd.R_newM (M := fun k_ => (w.heap.size ≤ k_)) ho0 (below_size (by repeat (first | (with_reducible first | exact HB.out | apply below_alloc | apply pw_below_drewN | apply below_drew1) | exact HB.out))) (fun k_ h_ => h_)) (Kd.R_lt (by (with_reducible repeat (first | apply Kd.R_alloc | apply Kd.R_drewN | apply Kd.R_drew)); exact HO184.out))) (below_size (by repeat (first | (with_reducible first | exact HB.out | apply below_alloc | apply pw_below_drewN | apply below_drew1) | exact HB.out))))
      have n3_ := Aside0.mk (below_step (by repeat (first | (with_reducible first | exact HB.out | apply below_alloc | apply pw_below_drewN | apply below_drew1) | exact HB.out)) hb)
      clear HO2
      clear HO184
      clear HB
      have HO2 := n0_
      have HO184 := n1_
      have HO187 := n2_
      have HB := n3_
      clear n0_ n1_ n2_ n3_
      (try clear hb)
      (try clear hb2)
      (try clear hk)
      (try clear hi)
      (try clear ho0)
      have hcv46 := own_string (P := Try.prog) Try.underlying23 Try.underlying5 Try.underlying9 (Kd.own_of_R HO184.out)
      refine hK.out _ _ (own_string (P := Try.prog) Try.underlying23 Try.underlying5 Try.underlying9 (Kd.own_of_R (by (with_reducible repeat (first | apply Kd.R_alloc | apply Kd.R_drewN | apply Kd.R_drew)); exact HO184.out))) (fun hHeld => ?_)
      clear hK K
      refine norm_ (a' := ?_) ?_ ?_
      rotate_left
      ·show Act.put _ (some 43) _ = _
       simp only [Act.put,q1,q2,q3,i64_w,i32_w]
       rfl
      refine one_ (i := 2) (N := some 44) #[I,I,I,I,I,O,O,O,O,O,O,O,O,O,O,O,O,O,O,O,O,O,O,O,O,O,O,O,O,O,O,O,O,O,O,O,O,O] rfl rfl (one_of HT_.out (by kernel_rfl)) (by decide) (fun K hK => ?_)
      have hcv45 := own_string (P := Try.prog) Try.underlying23 Try.underlying5 Try.underlying9 (Kd.own_of_R HO187.out)
      refine value_ (w1 := ?_) (v := ?_) (by rfl) rfl ?_ ?_
      rotate_left 2
      ·go_simp
       constructor
       ·rfl
       ·rfl
      clear hcv45
      refine hK.out _ _ (own_string (P := Try.prog) Try.underlying23 Try.underlying5 Try.underlying9 (Kd.own_of_R (by (with_reducible repeat (first | apply Kd.R_alloc | apply Kd.R_drewN | apply Kd.R_drew)); exact HO184.out))) (fun hHeld => ?_)
      clear hK K
      refine norm_ (a' := ?_) ?_ ?_
      rotate_left
      ·show Act.put _ (some 44) _ = _
       simp only [Act.put,q1,q2,q3,i64_w,i32_w]
       rfl
      refine pure_ (i := 5) (N := some 47) (v := ?_) (a' := ?_) #[I,I,I,I,I,I,O,O,O,O,O,O,O,O,O,O,O,O,O,O,O,O,O,O,O,O,O,O,O,O,O,O,O,O,O,O,O,O] rfl rfl (any_of HT_.out (by kernel_rfl)) (fun _ _ _ h => h) (Or.inl ⟨by rfl, ?_⟩) ?_ ?_
      rotate_left
      ·intro w'
       go_simp
       with_reducible rfl
      rotate_left
      ·simp only [Act.put,q1,q2,q3,i64_w,i32_w]
       rfl
      refine pure_ (i := 6) (N := some 48) (v := ?_) (a' := ?_) #[I,I,I,I,I,I,I,O,O,O,O,O,O,O,O,O,O,O,O,O,O,O,O,O,O,O,O,O,O,O,O,O,O,O,O,O,O,O] rfl rfl (any_of HT_.out (by kernel_rfl)) (fun _ _ _ h => h) (Or.inl ⟨by rfl, ?_⟩) ?_ ?_
      rotate_left
      ·intro w'
       go_simp
       with_reducible rfl
      rotate_left
      ·simp only [Act.put,q1,q2,q3,i64_w,i32_w]
       rfl
      refine pure_ (i := 7) (N := some 49) (v := ?_) (a' := ?_) #[I,I,I,I,I,I,I,I,O,O,O,O,O,O,O,O,O,O,O,O,O,O,O,O,O,O,O,O,O,O,O,O,O,O,O,O,O,O] rfl rfl (any_of HT_.out (by kernel_rfl)) (fun _ _ _ h => h) (Or.inl ⟨by rfl, ?_⟩) ?_ ?_
      rotate_left
      ·intro w'
       go_simp
       with_reducible rfl
      rotate_left
      ·simp only [Act.put,q1,q2,q3,i64_w,i32_w]
       rfl
      refine pure_ (i := 9) (N := some 51) (v := ?_) (a' := ?_) #[I,I,I,I,I,I,I,I,O,I,O,O,O,O,O,O,O,O,O,O,O,O,O,O,O,O,O,O,O,O,O,O,O,O,O,O,O,O] rfl rfl (any_of HT_.out (by kernel_rfl)) (fun _ _ _ h => h) (Or.inl ⟨by rfl, ?_⟩) ?_ ?_
      rotate_left
      ·intro w'
       go_simp
       with_reducible rfl
      rotate_left
      ·simp only [Act.put,q1,q2,q3,i64_w,i32_w]
       rfl
      refine one_ (i := 8) (N := some 50) #[I,I,I,I,I,I,I,I,I,I,O,O,O,O,O,O,O,O,O,O,O,O,O,O,O,O,O,O,O,O,O,O,O,O,O,O,O,O] rfl rfl (one_of HT_.out (by kernel_rfl)) (by decide) (fun K hK => ?_)
      refine goes_ Try.func8 (by kernel_rfl) rfl #[.int .u64 t181] (by rfl) rfl rfl (by (try simp only [List.map_toArray, List.map_cons, List.map_nil]); first | done | rfl | (simp only [List.length_drop, List.length_take]; rfl)) ?_
      with_reducible refine (leb_Zag.calls t181 t188 _ A17.out).mono ?_
      rintro e w' ⟨rfl, ⟨nd, rfl⟩⟩
      refine ⟨_, rfl, ?_⟩
      refine hK.out _ _ (own_string (P := Try.prog) Try.underlying23 Try.underlying5 Try.underlying9 (Kd.own_of_R (by (with_reducible repeat (first | apply Kd.R_alloc | apply Kd.R_drewN | apply Kd.R_drew)); exact HO184.out))) (fun hHeld => ?_)
      clear hK K
      refine norm_ (a' := ?_) ?_ ?_
      rotate_left
      ·show Act.put _ (some 50) _ = _
       simp only [Act.put,q1,q2,q3,i64_w,i32_w]
       rfl
      refine one_ (i := 10) (N := some 52) #[I,I,I,I,I,I,I,I,I,I,I,O,O,O,O,O,O,O,O,O,O,O,O,O,O,O,O,O,O,O,O,O,O,O,O,O,O,O] rfl rfl (one_of HT_.out (by kernel_rfl)) (by decide) (fun K hK => ?_)
      refine goes_ Try.func9 (by kernel_rfl) rfl #[.int .u64 t181] (by rfl) rfl rfl (by (try simp only [List.map_toArray, List.map_cons, List.map_nil]); first | done | rfl | (simp only [List.length_drop, List.length_take]; rfl)) ?_
      with_reducible refine (repriseref1_Zag.calls t181 t189 _ A18.out).mono ?_
      rintro e w' ⟨rfl, ⟨nd, rfl⟩⟩
      refine ⟨_, rfl, ?_⟩
      refine hK.out _ _ (own_string (P := Try.prog) Try.underlying23 Try.underlying5 Try.underlying9 (Kd.own_of_R (by (with_reducible repeat (first | apply Kd.R_alloc | apply Kd.R_drewN | apply Kd.R_drew)); exact HO184.out))) (fun hHeld => ?_)
      clear hK K
      refine norm_ (a' := ?_) ?_ ?_
      rotate_left
      ·show Act.put _ (some 52) _ = _
       simp only [Act.put,q1,q2,q3,i64_w,i32_w]
       rfl
      refine pure_ (i := 11) (N := some 53) (v := ?_) (a' := ?_) #[I,I,I,I,I,I,I,I,I,I,I,I,O,O,O,O,O,O,O,O,O,O,O,O,O,O,O,O,O,O,O,O,O,O,O,O,O,O] rfl rfl (any_of HT_.out (by kernel_rfl)) (fun _ _ _ h => h) (Or.inl ⟨by rfl, ?_⟩) ?_ ?_
      rotate_left
      ·intro w'
       go_simp
       with_reducible rfl
      rotate_left
      ·simp only [Act.put,q1,q2,q3,i64_w,i32_w]
       rfl
      refine pure_ (i := 12) (N := some 54) (v := ?_) (a' := ?_) #[I,I,I,I,I,I,I,I,I,I,I,I,I,O,O,O,O,O,O,O,O,O,O,O,O,O,O,O,O,O,O,O,O,O,O,O,O,O] rfl rfl (any_of HT_.out (by kernel_rfl)) (fun _ _ _ h => h) (Or.inl ⟨by rfl, ?_⟩) ?_ ?_
      rotate_left
      ·intro w'
       go_simp
       with_reducible rfl
      rotate_left
      ·simp only [Act.put,q1,q2,q3,i64_w,i32_w]
       rfl
      refine pure_ (i := 13) (N := some 55) (v := ?_) (a' := ?_) #[I,I,I,I,I,I,I,I,I,I,I,I,I,I,O,O,O,O,O,O,O,O,O,O,O,O,O,O,O,O,O,O,O,O,O,O,O,O] rfl rfl (any_of HT_.out (by kernel_rfl)) (fun _ _ _ h => h) (Or.inl ⟨by rfl, ?_⟩) ?_ ?_
      rotate_left
      ·intro w'
       go_simp
       with_reducible rfl
      rotate_left
      ·simp only [Act.put,q1,q2,q3,i64_w,i32_w]
       rfl
      refine pure_ (i := 14) (N := some 56) (v := undef) (a' := ?_) #[I,I,I,I,I,I,I,I,I,I,I,I,I,I,I,O,O,O,O,O,O,O,O,O,O,O,O,O,O,O,O,O,O,O,O,O,O,O] rfl rfl (any_of HT_.out (by kernel_rfl)) (fun _ _ _ h => h) (Or.inr ⟨by rfl, rfl⟩) ?_ ?_
      rotate_left
      ·simp only [Act.put,q1,q2,q3,i64_w,i32_w]
       rfl
      refine pure_ (i := 15) (N := some 57) (v := undef) (a' := ?_) #[I,I,I,I,I,I,I,I,I,I,I,I,I,I,I,I,O,O,O,O,O,O,O,O,O,O,O,O,O,O,O,O,O,O,O,O,O,O] rfl rfl (any_of HT_.out (by kernel_rfl)) (fun _ _ _ h => h) (Or.inr ⟨by rfl, rfl⟩) ?_ ?_
      rotate_left
      ·simp only [Act.put,q1,q2,q3,i64_w,i32_w]
       rfl
      refine pure_ (i := 16) (N := some 58) (v := undef) (a' := ?_) #[I,I,I,I,I,I,I,I,I,I,I,I,I,I,I,I,I,O,O,O,O,O,O,O,O,O,O,O,O,O,O,O,O,O,O,O,O,O] rfl rfl (any_of HT_.out (by kernel_rfl)) (fun _ _ _ h => h) (Or.inr ⟨by rfl, rfl⟩) ?_ ?_
      rotate_left
      ·simp only [Act.put,q1,q2,q3,i64_w,i32_w]
       rfl
      refine pure_ (i := 17) (N := some 59) (v := undef) (a' := ?_) #[I,I,I,I,I,I,I,I,I,I,I,I,I,I,I,I,I,I,O,O,O,O,O,O,O,O,O,O,O,O,O,O,O,O,O,O,O,O] rfl rfl (any_of HT_.out (by kernel_rfl)) (fun _ _ _ h => h) (Or.inr ⟨by rfl, rfl⟩) ?_ ?_
      rotate_left
      ·simp only [Act.put,q1,q2,q3,i64_w,i32_w]
       rfl
      refine pure_ (i := 18) (N := some 60) (v := undef) (a' := ?_) #[I,I,I,I,I,I,I,I,I,I,I,I,I,I,I,I,I,I,I,O,O,O,O,O,O,O,O,O,O,O,O,O,O,O,O,O,O,O] rfl rfl (any_of HT_.out (by kernel_rfl)) (fun _ _ _ h => h) (Or.inr ⟨by rfl, rfl⟩) ?_ ?_
      rotate_left
      ·simp only [Act.put,q1,q2,q3,i64_w,i32_w]
       rfl
      refine pure_ (i := 19) (N := some 61) (v := undef) (a' := ?_) #[I,I,I,I,I,I,I,I,I,I,I,I,I,I,I,I,I,I,I,I,O,O,O,O,O,O,O,O,O,O,O,O,O,O,O,O,O,O] rfl rfl (any_of HT_.out (by kernel_rfl)) (fun _ _ _ h => h) (Or.inr ⟨by rfl, rfl⟩) ?_ ?_
      rotate_left
      ·simp only [Act.put,q1,q2,q3,i64_w,i32_w]
       rfl
      refine pure_ (i := 20) (N := some 62) (v := undef) (a' := ?_) #[I,I,I,I,I,I,I,I,I,I,I,I,I,I,I,I,I,I,I,I,I,O,O,O,O,O,O,O,O,O,O,O,O,O,O,O,O,O] rfl rfl (any_of HT_.out (by kernel_rfl)) (fun _ _ _ h => h) (Or.inr ⟨by rfl, rfl⟩) ?_ ?_
      rotate_left
      ·simp only [Act.put,q1,q2,q3,i64_w,i32_w]
       rfl
      refine pure_ (i := 21) (N := some 63) (v := ?_) (a' := ?_) #[I,I,I,I,I,I,I,I,I,I,I,I,I,I,I,I,I,I,I,I,I,I,O,O,O,O,O,O,O,O,O,O,O,O,O,O,O,O] rfl rfl (any_of HT_.out (by kernel_rfl)) (fun _ _ _ h => h) (Or.inl ⟨by rfl, ?_⟩) ?_ ?_
      rotate_left
      ·intro w'
       go_simp
       with_reducible rfl
      rotate_left
      ·simp only [Act.put,q1,q2,q3,i64_w,i32_w]
       rfl
      refine pure_ (i := 22) (N := some 64) (v := ?_) (a' := ?_) #[I,I,I,I,I,I,I,I,I,I,I,I,I,I,I,I,I,I,I,I,I,I,I,O,O,O,O,O,O,O,O,O,O,O,O,O,O,O] rfl rfl (any_of HT_.out (by kernel_rfl)) (fun _ _ _ h => h) (Or.inl ⟨by rfl, ?_⟩) ?_ ?_
      rotate_left
      ·intro w'
       go_simp
       with_reducible rfl
      rotate_left
      ·simp only [Act.put,q1,q2,q3,i64_w,i32_w]
       rfl
      refine pure_ (i := 23) (N := some 65) (v := undef) (a' := ?_) #[I,I,I,I,I,I,I,I,I,I,I,I,I,I,I,I,I,I,I,I,I,I,I,I,O,O,O,O,O,O,O,O,O,O,O,O,O,O] rfl rfl (any_of HT_.out (by kernel_rfl)) (fun _ _ _ h => h) (Or.inr ⟨by rfl, rfl⟩) ?_ ?_
      rotate_left
      ·simp only [Act.put,q1,q2,q3,i64_w,i32_w]
       rfl
      refine pure_ (i := 24) (N := some 66) (v := undef) (a' := ?_) #[I,I,I,I,I,I,I,I,I,I,I,I,I,I,I,I,I,I,I,I,I,I,I,I,I,O,O,O,O,O,O,O,O,O,O,O,O,O] rfl rfl (any_of HT_.out (by kernel_rfl)) (fun _ _ _ h => h) (Or.inr ⟨by rfl, rfl⟩) ?_ ?_
      rotate_left
      ·simp only [Act.put,q1,q2,q3,i64_w,i32_w]
       rfl
      refine pure_ (i := 25) (N := some 67) (v := undef) (a' := ?_) #[I,I,I,I,I,I,I,I,I,I,I,I,I,I,I,I,I,I,I,I,I,I,I,I,I,I,O,O,O,O,O,O,O,O,O,O,O,O] rfl rfl (any_of HT_.out (by kernel_rfl)) (fun _ _ _ h => h) (Or.inr ⟨by rfl, rfl⟩) ?_ ?_
      rotate_left
      ·simp only [Act.put,q1,q2,q3,i64_w,i32_w]
       rfl
      refine pure_ (i := 26) (N := some 68) (v := undef) (a' := ?_) #[I,I,I,I,I,I,I,I,I,I,I,I,I,I,I,I,I,I,I,I,I,I,I,I,I,I,I,O,O,O,O,O,O,O,O,O,O,O] rfl rfl (any_of HT_.out (by kernel_rfl)) (fun _ _ _ h => h) (Or.inr ⟨by rfl, rfl⟩) ?_ ?_
      rotate_left
      ·simp only [Act.put,q1,q2,q3,i64_w,i32_w]
       rfl
      refine pure_ (i := 27) (N := some 69) (v := undef) (a' := ?_) #[I,I,I,I,I,I,I,I,I,I,I,I,I,I,I,I,I,I,I,I,I,I,I,I,I,I,I,I,O,O,O,O,O,O,O,O,O,O] rfl rfl (any_of HT_.out (by kernel_rfl)) (fun _ _ _ h => h) (Or.inr ⟨by rfl, rfl⟩) ?_ ?_
      rotate_left
      ·simp only [Act.put,q1,q2,q3,i64_w,i32_w]
       rfl
      refine pure_ (i := 28) (N := some 70) (v := undef) (a' := ?_) #[I,I,I,I,I,I,I,I,I,I,I,I,I,I,I,I,I,I,I,I,I,I,I,I,I,I,I,I,I,O,O,O,O,O,O,O,O,O] rfl rfl (any_of HT_.out (by kernel_rfl)) (fun _ _ _ h => h) (Or.inr ⟨by rfl, rfl⟩) ?_ ?_
      rotate_left
      ·simp only [Act.put,q1,q2,q3,i64_w,i32_w]
       rfl
      refine pure_ (i := 29) (N := some 71) (v := undef) (a' := ?_) #[I,I,I,I,I,I,I,I,I,I,I,I,I,I,I,I,I,I,I,I,I,I,I,I,I,I,I,I,I,I,O,O,O,O,O,O,O,O] rfl rfl (any_of HT_.out (by kernel_rfl)) (fun _ _ _ h => h) (Or.inr ⟨by rfl, rfl⟩) ?_ ?_
      rotate_left
      ·simp only [Act.put,q1,q2,q3,i64_w,i32_w]
       rfl
      refine pure_ (i := 30) (N := some 72) (v := ?_) (a' := ?_) #[I,I,I,I,I,I,I,I,I,I,I,I,I,I,I,I,I,I,I,I,I,I,I,I,I,I,I,I,I,I,I,O,O,O,O,O,O,O] rfl rfl (any_of HT_.out (by kernel_rfl)) (fun _ _ _ h => h) (Or.inl ⟨by rfl, ?_⟩) ?_ ?_
      rotate_left
      ·intro w'
       go_simp
       with_reducible rfl
      rotate_left
      ·simp only [Act.put,q1,q2,q3,i64_w,i32_w]
       rfl
      refine pure_ (i := 31) (N := some 73) (v := ?_) (a' := ?_) #[I,I,I,I,I,I,I,I,I,I,I,I,I,I,I,I,I,I,I,I,I,I,I,I,I,I,I,I,I,I,I,I,O,O,O,O,O,O] rfl rfl (any_of HT_.out (by kernel_rfl)) (fun _ _ _ h => h) (Or.inl ⟨by rfl, ?_⟩) ?_ ?_
      rotate_left
      ·intro w'
       go_simp
       with_reducible rfl
      rotate_left
      ·simp only [Act.put,q1,q2,q3,i64_w,i32_w]
       rfl
      refine pure_ (i := 32) (N := some 74) (v := undef) (a' := ?_) #[I,I,I,I,I,I,I,I,I,I,I,I,I,I,I,I,I,I,I,I,I,I,I,I,I,I,I,I,I,I,I,I,I,O,O,O,O,O] rfl rfl (any_of HT_.out (by kernel_rfl)) (fun _ _ _ h => h) (Or.inr ⟨by rfl, rfl⟩) ?_ ?_
      rotate_left
      ·simp only [Act.put,q1,q2,q3,i64_w,i32_w]
       rfl
      refine pure_ (i := 33) (N := some 75) (v := undef) (a' := ?_) #[I,I,I,I,I,I,I,I,I,I,I,I,I,I,I,I,I,I,I,I,I,I,I,I,I,I,I,I,I,I,I,I,I,I,O,O,O,O] rfl rfl (any_of HT_.out (by kernel_rfl)) (fun _ _ _ h => h) (Or.inr ⟨by rfl, rfl⟩) ?_ ?_
      rotate_left
      ·simp only [Act.put,q1,q2,q3,i64_w,i32_w]
       rfl
      refine pure_ (i := 34) (N := some 76) (v := undef) (a' := ?_) #[I,I,I,I,I,I,I,I,I,I,I,I,I,I,I,I,I,I,I,I,I,I,I,I,I,I,I,I,I,I,I,I,I,I,I,O,O,O] rfl rfl (any_of HT_.out (by kernel_rfl)) (fun _ _ _ h => h) (Or.inr ⟨by rfl, rfl⟩) ?_ ?_
      rotate_left
      ·simp only [Act.put,q1,q2,q3,i64_w,i32_w]
       rfl
      refine pure_ (i := 35) (N := some 77) (v := undef) (a' := ?_) #[I,I,I,I,I,I,I,I,I,I,I,I,I,I,I,I,I,I,I,I,I,I,I,I,I,I,I,I,I,I,I,I,I,I,I,I,O,O] rfl rfl (any_of HT_.out (by kernel_rfl)) (fun _ _ _ h => h) (Or.inr ⟨by rfl, rfl⟩) ?_ ?_
      rotate_left
      ·simp only [Act.put,q1,q2,q3,i64_w,i32_w]
       rfl
      refine pure_ (i := 36) (N := some 78) (v := undef) (a' := ?_) #[I,I,I,I,I,I,I,I,I,I,I,I,I,I,I,I,I,I,I,I,I,I,I,I,I,I,I,I,I,I,I,I,I,I,I,I,I,O] rfl rfl (any_of HT_.out (by kernel_rfl)) (fun _ _ _ h => h) (Or.inr ⟨by rfl, rfl⟩) ?_ ?_
      rotate_left
      ·simp only [Act.put,q1,q2,q3,i64_w,i32_w]
       rfl
      refine pure_ (i := 37) (N := some 79) (v := ?_) (a' := ?_) #[I,I,I,I,I,I,I,I,I,I,I,I,I,I,I,I,I,I,I,I,I,I,I,I,I,I,I,I,I,I,I,I,I,I,I,I,I,I] rfl rfl (any_of HT_.out (by kernel_rfl)) (fun _ _ _ h => h) (Or.inl ⟨by rfl, ?_⟩) ?_ ?_
      rotate_left
      ·intro w'
       go_simp
       with_reducible rfl
      rotate_left
      ·simp only [Act.put,q1,q2,q3,i64_w,i32_w]
       rfl
      refine done_ (done_of HT_.out (by kernel_rfl)) ?_
      try go_wp2
      go_meet
      case rel => exact ⟨_, (true), (by first | rfl | (simp; done) | (simp [*]; done)), H', ⟨by first | omega | exact Nat.le_refl _⟩, ⟨by (with_reducible repeat (first | apply Kd.V_alloc | apply Kd.V_drewN | apply Kd.V_drew)); exact Kd.V_mono HO2.out (fun _ hk => by first | exact ⟨hk.1, hk.2.1⟩ | exact hk | exact hk.1 | exact hk.1.1 | exact hk.1.1.1 | exact hk.2)⟩, ⟨by (with_reducible repeat (first | apply Kd.R_alloc | apply Kd.R_drewN | apply Kd.R_drew)); exact Kd.R_mono HO184.out (fun _ hk => by first | exact hk.1 | exact hk | exact hk.1 | exact hk.1.1 | exact hk.1.1.1 | exact hk.2)⟩, ⟨by repeat (first | (with_reducible first | exact HB.out | apply below_alloc | apply pw_below_drewN | apply below_drew1) | exact HB.out)⟩⟩
    ·rw [if_neg c16] at H
     have c16b0 : ((strOfNums t185).toList == (strOfNums t182).toList) = false := beq_eq_false_iff_ne.mpr c16
     have c16b1 : ((strOfNums t185).toList != (strOfNums t182).toList) = true := bne_iff_ne.mpr c16
     (first | rw [c16b0] | (simp only [i64_w, i32_w]; rw [c16b0]) | skip)
     have H' := Aside0.mk H
     clear H
     try go_wp2
     have n0_ := Aside0.mk (Kd.V_drew HO2.out)
     have n1_ := Aside0.mk (Kd.R_drew HO184.out)
     have n2_ := Aside0.mk (below_drew1 HB.out)
     clear HO2
     clear HO184
     clear HB
     have HO2 := n0_
     have HO184 := n1_
     have HB := n2_
     clear n0_ n1_ n2_
     refine start_ (n := 38) (S := fun w' => Sem.run Try.prog (convert 23 9 v183) w' = Result.ok (.string (strOfNums t182)) w') (ds := []) #[O,O,O,O,O,O,O,O,O,O,O,O,O,O,O,O,O,O,O,O,O,O,O,O,O,O,O,O,O,O,O,O,O,O,O,O,O,O] (by kernel_rfl) rfl rfl (own_string (P := Try.prog) Try.underlying23 Try.underlying5 Try.underlying9 (Kd.own_of_R (by (with_reducible repeat (first | apply Kd.R_alloc | apply Kd.R_drewN | apply Kd.R_drew)); exact HO184.out))) (fun hHeld => ?_); refine with_tabW repriselaw1_LebTells.tab7 repriselaw1_LebTells.bits7 (fun HT_ HW_ => ?_)
     generalize w14.drew = w48 at HO2 HO184 HB hHeld ⊢
     refine pure_ (i := 0) (N := some 42) (v := ?_) (a' := ?_) #[I,O,O,O,O,O,O,O,O,O,O,O,O,O,O,O,O,O,O,O,O,O,O,O,O,O,O,O,O,O,O,O,O,O,O,O,O,O] rfl rfl (any_of HT_.out (by kernel_rfl)) (fun _ _ _ h => h) (Or.inl ⟨by rfl, ?_⟩) ?_ ?_
     rotate_left
     ·intro w'
      go_simp
      with_reducible rfl
     rotate_left
     ·simp only [Act.put,q1,q2,q3,i64_w,i32_w]
      rfl
     refine pure_ (i := 3) (N := some 45) (v := ?_) (a' := ?_) #[I,O,O,I,O,O,O,O,O,O,O,O,O,O,O,O,O,O,O,O,O,O,O,O,O,O,O,O,O,O,O,O,O,O,O,O,O,O] rfl rfl (any_of HT_.out (by kernel_rfl)) (fun _ _ _ h => h) (Or.inl ⟨by rfl, ?_⟩) ?_ ?_
     rotate_left
     ·intro w'
      go_simp
      with_reducible rfl
     rotate_left
     ·simp only [Act.put,q1,q2,q3,i64_w,i32_w]
      rfl
     refine take_ (i := 4) (N := some 46) (v := ?_) (a' := ?_) #[I,O,O,I,I,O,O,O,O,O,O,O,O,O,O,O,O,O,O,O,O,O,O,O,O,O,O,O,O,O,O,O,O,O,O,O,O,O] rfl rfl (take_ofW HT_.out HW_.out (by kernel_rfl)) (fun _ _ _ h => h) (Or.inl ⟨by rfl, ?_⟩) hHeld ?_ ?_
     rotate_left
     ·intro w' hs4
      go_simp
      rfl
     rotate_left
     ·simp only [Act.put,q1,q2,q3,i64_w,i32_w]
      rfl
     refine one_ (i := 1) (N := some 43) #[I,I,O,I,I,O,O,O,O,O,O,O,O,O,O,O,O,O,O,O,O,O,O,O,O,O,O,O,O,O,O,O,O,O,O,O,O,O] rfl rfl (one_of HT_.out (by kernel_rfl)) (by decide) (fun K hK => ?_)
     refine goes_ Try.func7 (by kernel_rfl) rfl #[.int .u64 t181] (by rfl) rfl rfl (by (try simp only [List.map_toArray, List.map_cons, List.map_nil]); first | done | rfl | (simp only [List.length_drop, List.length_take]; rfl)) ?_
     with_reducible refine (leb_Put.calls k t181 t185 _ A15.out).mono ?_
     rintro e w49 ⟨v186, rfl, ho0, hb⟩
     refine ⟨_, rfl, ?_⟩
     have n0_ := Aside0.mk (Kd.V_elder' (by (with_reducible repeat (first | apply Kd.V_alloc | apply Kd.V_drewN | apply Kd.V_drew)); exact HO2.out) (Kd.R_base ho0) hb)
     have n1_ := Aside0.mk (Kd.R_elder' (by (with_reducible repeat (first | apply Kd.R_alloc | apply Kd.R_drewN | apply Kd.R_drew)); exact HO184.out) (Kd.R_base ho0) hb)
     have n2_ := Aside0.mk (Kd.R_lower (Kd.R_new' (Kd.R_newM (M := fun k_ => (w.heap.size ≤ k_)) ho0 (below_size (by repeat (first | (with_reducible first | exact HB.out | apply below_alloc | apply pw_below_drewN | apply below_drew1) | exact HB.out))) (fun k_ h_ => h_)) (Kd.R_lt (by (with_reducible repeat (first | apply Kd.R_alloc | apply Kd.R_drewN | apply Kd.R_drew)); exact HO184.out))) (below_size (by repeat (first | (with_reducible first | exact HB.out | apply below_alloc | apply pw_below_drewN | apply below_drew1) | exact HB.out))))
     have n3_ := Aside0.mk (below_step (by repeat (first | (with_reducible first | exact HB.out | apply below_alloc | apply pw_below_drewN | apply below_drew1) | exact HB.out)) hb)
     clear HO2
     clear HO184
     clear HB
     have HO2 := n0_
     have HO184 := n1_
     have HO187 := n2_
     have HB := n3_
     clear n0_ n1_ n2_ n3_
     (try clear hb)
     (try clear hb2)
     (try clear hk)
     (try clear hi)
     (try clear ho0)
     have hcv51 := own_string (P := Try.prog) Try.underlying23 Try.underlying5 Try.underlying9 (Kd.own_of_R HO184.out)
     refine hK.out _ _ (own_string (P := Try.prog) Try.underlying23 Try.underlying5 Try.underlying9 (Kd.own_of_R (by (with_reducible repeat (first | apply Kd.R_alloc | apply Kd.R_drewN | apply Kd.R_drew)); exact HO184.out))) (fun hHeld => ?_)
     clear hK K
     refine norm_ (a' := ?_) ?_ ?_
     rotate_left
     ·show Act.put _ (some 43) _ = _
      simp only [Act.put,q1,q2,q3,i64_w,i32_w]
      rfl
     refine one_ (i := 2) (N := some 44) #[I,I,I,I,I,O,O,O,O,O,O,O,O,O,O,O,O,O,O,O,O,O,O,O,O,O,O,O,O,O,O,O,O,O,O,O,O,O] rfl rfl (one_of HT_.out (by kernel_rfl)) (by decide) (fun K hK => ?_)
     have hcv50 := own_string (P := Try.prog) Try.underlying23 Try.underlying5 Try.underlying9 (Kd.own_of_R HO187.out)
     refine value_ (w1 := ?_) (v := ?_) (by rfl) rfl ?_ ?_
     rotate_left 2
     ·go_simp
      constructor
      ·rfl
      ·rfl
     clear hcv50
     refine hK.out _ _ (own_string (P := Try.prog) Try.underlying23 Try.underlying5 Try.underlying9 (Kd.own_of_R (by (with_reducible repeat (first | apply Kd.R_alloc | apply Kd.R_drewN | apply Kd.R_drew)); exact HO184.out))) (fun hHeld => ?_)
     clear hK K
     refine norm_ (a' := ?_) ?_ ?_
     rotate_left
     ·show Act.put _ (some 44) _ = _
      simp only [Act.put,q1,q2,q3,i64_w,i32_w]
      rfl
     refine pure_ (i := 5) (N := some 47) (v := ?_) (a' := ?_) #[I,I,I,I,I,I,O,O,O,O,O,O,O,O,O,O,O,O,O,O,O,O,O,O,O,O,O,O,O,O,O,O,O,O,O,O,O,O] rfl rfl (any_of HT_.out (by kernel_rfl)) (fun _ _ _ h => h) (Or.inl ⟨by rfl, ?_⟩) ?_ ?_
     rotate_left
     ·intro w'
      go_simp
      with_reducible rfl
     rotate_left
     ·simp only [Act.put,q1,q2,q3,i64_w,i32_w]
      rfl
     refine pure_ (i := 6) (N := some 48) (v := ?_) (a' := ?_) #[I,I,I,I,I,I,I,O,O,O,O,O,O,O,O,O,O,O,O,O,O,O,O,O,O,O,O,O,O,O,O,O,O,O,O,O,O,O] rfl rfl (any_of HT_.out (by kernel_rfl)) (fun _ _ _ h => h) (Or.inl ⟨by rfl, ?_⟩) ?_ ?_
     rotate_left
     ·intro w'
      go_simp
      with_reducible rfl
     rotate_left
     ·simp only [Act.put,q1,q2,q3,i64_w,i32_w]
      rfl
     refine pure_ (i := 7) (N := some 49) (v := undef) (a' := ?_) #[I,I,I,I,I,I,I,I,O,O,O,O,O,O,O,O,O,O,O,O,O,O,O,O,O,O,O,O,O,O,O,O,O,O,O,O,O,O] rfl rfl (any_of HT_.out (by kernel_rfl)) (fun _ _ _ h => h) (Or.inr ⟨by rfl, rfl⟩) ?_ ?_
     rotate_left
     ·simp only [Act.put,q1,q2,q3,i64_w,i32_w]
      rfl
     refine pure_ (i := 8) (N := some 50) (v := undef) (a' := ?_) #[I,I,I,I,I,I,I,I,I,O,O,O,O,O,O,O,O,O,O,O,O,O,O,O,O,O,O,O,O,O,O,O,O,O,O,O,O,O] rfl rfl (any_of HT_.out (by kernel_rfl)) (fun _ _ _ h => h) (Or.inr ⟨by rfl, rfl⟩) ?_ ?_
     rotate_left
     ·simp only [Act.put,q1,q2,q3,i64_w,i32_w]
      rfl
     refine pure_ (i := 9) (N := some 51) (v := undef) (a' := ?_) #[I,I,I,I,I,I,I,I,I,I,O,O,O,O,O,O,O,O,O,O,O,O,O,O,O,O,O,O,O,O,O,O,O,O,O,O,O,O] rfl rfl (any_of HT_.out (by kernel_rfl)) (fun _ _ _ h => h) (Or.inr ⟨by rfl, rfl⟩) ?_ ?_
     rotate_left
     ·simp only [Act.put,q1,q2,q3,i64_w,i32_w]
      rfl
     refine pure_ (i := 10) (N := some 52) (v := undef) (a' := ?_) #[I,I,I,I,I,I,I,I,I,I,I,O,O,O,O,O,O,O,O,O,O,O,O,O,O,O,O,O,O,O,O,O,O,O,O,O,O,O] rfl rfl (any_of HT_.out (by kernel_rfl)) (fun _ _ _ h => h) (Or.inr ⟨by rfl, rfl⟩) ?_ ?_
     rotate_left
     ·simp only [Act.put,q1,q2,q3,i64_w,i32_w]
      rfl
     refine pure_ (i := 11) (N := some 53) (v := undef) (a' := ?_) #[I,I,I,I,I,I,I,I,I,I,I,I,O,O,O,O,O,O,O,O,O,O,O,O,O,O,O,O,O,O,O,O,O,O,O,O,O,O] rfl rfl (any_of HT_.out (by kernel_rfl)) (fun _ _ _ h => h) (Or.inr ⟨by rfl, rfl⟩) ?_ ?_
     rotate_left
     ·simp only [Act.put,q1,q2,q3,i64_w,i32_w]
      rfl
     refine pure_ (i := 12) (N := some 54) (v := ?_) (a' := ?_) #[I,I,I,I,I,I,I,I,I,I,I,I,I,O,O,O,O,O,O,O,O,O,O,O,O,O,O,O,O,O,O,O,O,O,O,O,O,O] rfl rfl (any_of HT_.out (by kernel_rfl)) (fun _ _ _ h => h) (Or.inl ⟨by rfl, ?_⟩) ?_ ?_
     rotate_left
     ·intro w'
      go_simp
      with_reducible rfl
     rotate_left
     ·simp only [Act.put,q1,q2,q3,i64_w,i32_w]
      rfl
     refine pure_ (i := 13) (N := some 55) (v := ?_) (a' := ?_) #[I,I,I,I,I,I,I,I,I,I,I,I,I,I,O,O,O,O,O,O,O,O,O,O,O,O,O,O,O,O,O,O,O,O,O,O,O,O] rfl rfl (any_of HT_.out (by kernel_rfl)) (fun _ _ _ h => h) (Or.inl ⟨by rfl, ?_⟩) ?_ ?_
     rotate_left
     ·intro w'
      go_simp
      with_reducible rfl
     rotate_left
     ·simp only [Act.put,q1,q2,q3,i64_w,i32_w]
      rfl
     refine pure_ (i := 14) (N := some 56) (v := undef) (a' := ?_) #[I,I,I,I,I,I,I,I,I,I,I,I,I,I,I,O,O,O,O,O,O,O,O,O,O,O,O,O,O,O,O,O,O,O,O,O,O,O] rfl rfl (any_of HT_.out (by kernel_rfl)) (fun _ _ _ h => h) (Or.inr ⟨by rfl, rfl⟩) ?_ ?_
     rotate_left
     ·simp only [Act.put,q1,q2,q3,i64_w,i32_w]
      rfl
     refine pure_ (i := 15) (N := some 57) (v := undef) (a' := ?_) #[I,I,I,I,I,I,I,I,I,I,I,I,I,I,I,I,O,O,O,O,O,O,O,O,O,O,O,O,O,O,O,O,O,O,O,O,O,O] rfl rfl (any_of HT_.out (by kernel_rfl)) (fun _ _ _ h => h) (Or.inr ⟨by rfl, rfl⟩) ?_ ?_
     rotate_left
     ·simp only [Act.put,q1,q2,q3,i64_w,i32_w]
      rfl
     refine pure_ (i := 16) (N := some 58) (v := undef) (a' := ?_) #[I,I,I,I,I,I,I,I,I,I,I,I,I,I,I,I,I,O,O,O,O,O,O,O,O,O,O,O,O,O,O,O,O,O,O,O,O,O] rfl rfl (any_of HT_.out (by kernel_rfl)) (fun _ _ _ h => h) (Or.inr ⟨by rfl, rfl⟩) ?_ ?_
     rotate_left
     ·simp only [Act.put,q1,q2,q3,i64_w,i32_w]
      rfl
     refine pure_ (i := 17) (N := some 59) (v := undef) (a' := ?_) #[I,I,I,I,I,I,I,I,I,I,I,I,I,I,I,I,I,I,O,O,O,O,O,O,O,O,O,O,O,O,O,O,O,O,O,O,O,O] rfl rfl (any_of HT_.out (by kernel_rfl)) (fun _ _ _ h => h) (Or.inr ⟨by rfl, rfl⟩) ?_ ?_
     rotate_left
     ·simp only [Act.put,q1,q2,q3,i64_w,i32_w]
      rfl
     refine pure_ (i := 18) (N := some 60) (v := undef) (a' := ?_) #[I,I,I,I,I,I,I,I,I,I,I,I,I,I,I,I,I,I,I,O,O,O,O,O,O,O,O,O,O,O,O,O,O,O,O,O,O,O] rfl rfl (any_of HT_.out (by kernel_rfl)) (fun _ _ _ h => h) (Or.inr ⟨by rfl, rfl⟩) ?_ ?_
     rotate_left
     ·simp only [Act.put,q1,q2,q3,i64_w,i32_w]
      rfl
     refine pure_ (i := 19) (N := some 61) (v := undef) (a' := ?_) #[I,I,I,I,I,I,I,I,I,I,I,I,I,I,I,I,I,I,I,I,O,O,O,O,O,O,O,O,O,O,O,O,O,O,O,O,O,O] rfl rfl (any_of HT_.out (by kernel_rfl)) (fun _ _ _ h => h) (Or.inr ⟨by rfl, rfl⟩) ?_ ?_
     rotate_left
     ·simp only [Act.put,q1,q2,q3,i64_w,i32_w]
      rfl
     refine pure_ (i := 20) (N := some 62) (v := undef) (a' := ?_) #[I,I,I,I,I,I,I,I,I,I,I,I,I,I,I,I,I,I,I,I,I,O,O,O,O,O,O,O,O,O,O,O,O,O,O,O,O,O] rfl rfl (any_of HT_.out (by kernel_rfl)) (fun _ _ _ h => h) (Or.inr ⟨by rfl, rfl⟩) ?_ ?_
     rotate_left
     ·simp only [Act.put,q1,q2,q3,i64_w,i32_w]
      rfl
     refine pure_ (i := 21) (N := some 63) (v := ?_) (a' := ?_) #[I,I,I,I,I,I,I,I,I,I,I,I,I,I,I,I,I,I,I,I,I,I,O,O,O,O,O,O,O,O,O,O,O,O,O,O,O,O] rfl rfl (any_of HT_.out (by kernel_rfl)) (fun _ _ _ h => h) (Or.inl ⟨by rfl, ?_⟩) ?_ ?_
     rotate_left
     ·intro w'
      go_simp
      with_reducible rfl
     rotate_left
     ·simp only [Act.put,q1,q2,q3,i64_w,i32_w]
      rfl
     refine pure_ (i := 22) (N := some 64) (v := ?_) (a' := ?_) #[I,I,I,I,I,I,I,I,I,I,I,I,I,I,I,I,I,I,I,I,I,I,I,O,O,O,O,O,O,O,O,O,O,O,O,O,O,O] rfl rfl (any_of HT_.out (by kernel_rfl)) (fun _ _ _ h => h) (Or.inl ⟨by rfl, ?_⟩) ?_ ?_
     rotate_left
     ·intro w'
      go_simp
      with_reducible rfl
     rotate_left
     ·simp only [Act.put,q1,q2,q3,i64_w,i32_w]
      rfl
     refine pure_ (i := 23) (N := some 65) (v := undef) (a' := ?_) #[I,I,I,I,I,I,I,I,I,I,I,I,I,I,I,I,I,I,I,I,I,I,I,I,O,O,O,O,O,O,O,O,O,O,O,O,O,O] rfl rfl (any_of HT_.out (by kernel_rfl)) (fun _ _ _ h => h) (Or.inr ⟨by rfl, rfl⟩) ?_ ?_
     rotate_left
     ·simp only [Act.put,q1,q2,q3,i64_w,i32_w]
      rfl
     refine pure_ (i := 24) (N := some 66) (v := undef) (a' := ?_) #[I,I,I,I,I,I,I,I,I,I,I,I,I,I,I,I,I,I,I,I,I,I,I,I,I,O,O,O,O,O,O,O,O,O,O,O,O,O] rfl rfl (any_of HT_.out (by kernel_rfl)) (fun _ _ _ h => h) (Or.inr ⟨by rfl, rfl⟩) ?_ ?_
     rotate_left
     ·simp only [Act.put,q1,q2,q3,i64_w,i32_w]
      rfl
     refine pure_ (i := 25) (N := some 67) (v := undef) (a' := ?_) #[I,I,I,I,I,I,I,I,I,I,I,I,I,I,I,I,I,I,I,I,I,I,I,I,I,I,O,O,O,O,O,O,O,O,O,O,O,O] rfl rfl (any_of HT_.out (by kernel_rfl)) (fun _ _ _ h => h) (Or.inr ⟨by rfl, rfl⟩) ?_ ?_
     rotate_left
     ·simp only [Act.put,q1,q2,q3,i64_w,i32_w]
      rfl
     refine pure_ (i := 26) (N := some 68) (v := undef) (a' := ?_) #[I,I,I,I,I,I,I,I,I,I,I,I,I,I,I,I,I,I,I,I,I,I,I,I,I,I,I,O,O,O,O,O,O,O,O,O,O,O] rfl rfl (any_of HT_.out (by kernel_rfl)) (fun _ _ _ h => h) (Or.inr ⟨by rfl, rfl⟩) ?_ ?_
     rotate_left
     ·simp only [Act.put,q1,q2,q3,i64_w,i32_w]
      rfl
     refine pure_ (i := 27) (N := some 69) (v := undef) (a' := ?_) #[I,I,I,I,I,I,I,I,I,I,I,I,I,I,I,I,I,I,I,I,I,I,I,I,I,I,I,I,O,O,O,O,O,O,O,O,O,O] rfl rfl (any_of HT_.out (by kernel_rfl)) (fun _ _ _ h => h) (Or.inr ⟨by rfl, rfl⟩) ?_ ?_
     rotate_left
     ·simp only [Act.put,q1,q2,q3,i64_w,i32_w]
      rfl
     refine pure_ (i := 28) (N := some 70) (v := undef) (a' := ?_) #[I,I,I,I,I,I,I,I,I,I,I,I,I,I,I,I,I,I,I,I,I,I,I,I,I,I,I,I,I,O,O,O,O,O,O,O,O,O] rfl rfl (any_of HT_.out (by kernel_rfl)) (fun _ _ _ h => h) (Or.inr ⟨by rfl, rfl⟩) ?_ ?_
     rotate_left
     ·simp only [Act.put,q1,q2,q3,i64_w,i32_w]
      rfl
     refine pure_ (i := 29) (N := some 71) (v := undef) (a' := ?_) #[I,I,I,I,I,I,I,I,I,I,I,I,I,I,I,I,I,I,I,I,I,I,I,I,I,I,I,I,I,I,O,O,O,O,O,O,O,O] rfl rfl (any_of HT_.out (by kernel_rfl)) (fun _ _ _ h => h) (Or.inr ⟨by rfl, rfl⟩) ?_ ?_
     rotate_left
     ·simp only [Act.put,q1,q2,q3,i64_w,i32_w]
      rfl
     refine pure_ (i := 30) (N := some 72) (v := ?_) (a' := ?_) #[I,I,I,I,I,I,I,I,I,I,I,I,I,I,I,I,I,I,I,I,I,I,I,I,I,I,I,I,I,I,I,O,O,O,O,O,O,O] rfl rfl (any_of HT_.out (by kernel_rfl)) (fun _ _ _ h => h) (Or.inl ⟨by rfl, ?_⟩) ?_ ?_
     rotate_left
     ·intro w'
      go_simp
      with_reducible rfl
     rotate_left
     ·simp only [Act.put,q1,q2,q3,i64_w,i32_w]
      rfl
     refine pure_ (i := 31) (N := some 73) (v := ?_) (a' := ?_) #[I,I,I,I,I,I,I,I,I,I,I,I,I,I,I,I,I,I,I,I,I,I,I,I,I,I,I,I,I,I,I,I,O,O,O,O,O,O] rfl rfl (any_of HT_.out (by kernel_rfl)) (fun _ _ _ h => h) (Or.inl ⟨by rfl, ?_⟩) ?_ ?_
     rotate_left
     ·intro w'
      go_simp
      with_reducible rfl
     rotate_left
     ·simp only [Act.put,q1,q2,q3,i64_w,i32_w]
      rfl
     refine pure_ (i := 32) (N := some 74) (v := undef) (a' := ?_) #[I,I,I,I,I,I,I,I,I,I,I,I,I,I,I,I,I,I,I,I,I,I,I,I,I,I,I,I,I,I,I,I,I,O,O,O,O,O] rfl rfl (any_of HT_.out (by kernel_rfl)) (fun _ _ _ h => h) (Or.inr ⟨by rfl, rfl⟩) ?_ ?_
     rotate_left
     ·simp only [Act.put,q1,q2,q3,i64_w,i32_w]
      rfl
     refine pure_ (i := 33) (N := some 75) (v := undef) (a' := ?_) #[I,I,I,I,I,I,I,I,I,I,I,I,I,I,I,I,I,I,I,I,I,I,I,I,I,I,I,I,I,I,I,I,I,I,O,O,O,O] rfl rfl (any_of HT_.out (by kernel_rfl)) (fun _ _ _ h => h) (Or.inr ⟨by rfl, rfl⟩) ?_ ?_
     rotate_left
     ·simp only [Act.put,q1,q2,q3,i64_w,i32_w]
      rfl
     refine pure_ (i := 34) (N := some 76) (v := undef) (a' := ?_) #[I,I,I,I,I,I,I,I,I,I,I,I,I,I,I,I,I,I,I,I,I,I,I,I,I,I,I,I,I,I,I,I,I,I,I,O,O,O] rfl rfl (any_of HT_.out (by kernel_rfl)) (fun _ _ _ h => h) (Or.inr ⟨by rfl, rfl⟩) ?_ ?_
     rotate_left
     ·simp only [Act.put,q1,q2,q3,i64_w,i32_w]
      rfl
     refine pure_ (i := 35) (N := some 77) (v := undef) (a' := ?_) #[I,I,I,I,I,I,I,I,I,I,I,I,I,I,I,I,I,I,I,I,I,I,I,I,I,I,I,I,I,I,I,I,I,I,I,I,O,O] rfl rfl (any_of HT_.out (by kernel_rfl)) (fun _ _ _ h => h) (Or.inr ⟨by rfl, rfl⟩) ?_ ?_
     rotate_left
     ·simp only [Act.put,q1,q2,q3,i64_w,i32_w]
      rfl
     refine pure_ (i := 36) (N := some 78) (v := undef) (a' := ?_) #[I,I,I,I,I,I,I,I,I,I,I,I,I,I,I,I,I,I,I,I,I,I,I,I,I,I,I,I,I,I,I,I,I,I,I,I,I,O] rfl rfl (any_of HT_.out (by kernel_rfl)) (fun _ _ _ h => h) (Or.inr ⟨by rfl, rfl⟩) ?_ ?_
     rotate_left
     ·simp only [Act.put,q1,q2,q3,i64_w,i32_w]
      rfl
     refine pure_ (i := 37) (N := some 79) (v := ?_) (a' := ?_) #[I,I,I,I,I,I,I,I,I,I,I,I,I,I,I,I,I,I,I,I,I,I,I,I,I,I,I,I,I,I,I,I,I,I,I,I,I,I] rfl rfl (any_of HT_.out (by kernel_rfl)) (fun _ _ _ h => h) (Or.inl ⟨by rfl, ?_⟩) ?_ ?_
     rotate_left
     ·intro w'
      go_simp
      with_reducible rfl
     rotate_left
     ·simp only [Act.put,q1,q2,q3,i64_w,i32_w]
      rfl
     refine done_ (done_of HT_.out (by kernel_rfl)) ?_
     try go_wp2
     go_meet
     case rel => exact ⟨_, (true), (by first | rfl | (simp; done) | (simp [*]; done)), H', ⟨by first | omega | exact Nat.le_refl _⟩, ⟨by (with_reducible repeat (first | apply Kd.V_alloc | apply Kd.V_drewN | apply Kd.V_drew)); exact Kd.V_mono HO2.out (fun _ hk => by first | exact ⟨hk.1, hk.2.1⟩ | exact hk | exact hk.1 | exact hk.1.1 | exact hk.1.1.1 | exact hk.2)⟩, ⟨by (with_reducible repeat (first | apply Kd.R_alloc | apply Kd.R_drewN | apply Kd.R_drew)); exact Kd.R_mono HO184.out (fun _ hk => by first | exact hk.1 | exact hk | exact hk.1 | exact hk.1.1 | exact hk.1.1.1 | exact hk.2)⟩, ⟨by repeat (first | (with_reducible first | exact HB.out | apply below_alloc | apply pw_below_drewN | apply below_drew1) | exact HB.out)⟩⟩
   case rest =>
    clear HC11
    try clear c1
    try clear p2
    try clear hcv4
    try clear hcv5
    try clear c7
    try clear c8
    try clear c9
    try clear c16
    try clear c16b0
    try clear c16b1
    try clear c19
    try clear c19b0
    try clear c19b1
    try clear hcv45
    try clear hcv46
    try clear hcv50
    try clear hcv51
    obtain ⟨kq, x79_10, rfl, HA, HJ10, HO_2, HO_10, HB⟩ := hcut
    cases kq with
    | zero => exact absurd HA.out (by simp [repriselaw1_LebTells.j0])
    | succ kj10 =>
     have H := HA.out
     clear HA
     simp only [repriselaw1_LebTells.j0] at H
     by_cases c53 : x79_10 = true
     ·subst c53
      have H1 : (none) = some r := by rw [if_pos rfl] at H; exact H
      clear H
      have H := H1
      clear H1
      exact absurd H (by simp)
     ·replace c53 := Bool.eq_false_iff.mpr c53
      subst c53
      have H1 : ((some (([128, 128, 128, 128, 128, 128, 128, 128, 128, Int.tmod a1 4] : List Int) : List Int)).bind fun y196 => (if (wrap64 ((t182.length : Int) + 1)) = 0 then (none) else (if 0 ≤ (Int.tmod (wrap64 (a1)) (wrap64 ((t182.length : Int) + 1))) then (if (Int.tmod (wrap64 (a1)) (wrap64 ((t182.length : Int) + 1))) ≤ (t182.length : Int) then (if ([] : List Int).length + t182.length < 140737488355328 then ((some (([] : List Int) ++ t182 : List Int)).bind fun y204 => (if y204.length + l2.length < 140737488355328 then (if 0 ≤ (Int.tmod (wrap64 (a1)) 9) then (if (Int.tmod (wrap64 (a1)) 9) ≤ (y196.length : Int) then ((some (y196.take ((Int.tmod (wrap64 (a1)) 9) : Int).toNat : List Int)).bind fun y210 => (if ([] : List Int).length + y210.length < 140737488355328 then ((some (([] : List Int) ++ y210 : List Int)).bind fun y215 => ((some (([0] : List Int) : List Int)).bind fun y218 => (if y215.length + y218.length < 140737488355328 then ((some (([l2, t182, (t182.take ((Int.tmod (wrap64 (a1)) (wrap64 ((t182.length : Int) + 1))) : Int).toNat), (y204 ++ l2), y196, (y215 ++ y218)] : List (List Int)) : List (List Int))).bind fun y224 => (repriselaw1_LebTells.l0 kj10 a1 l2 a3 y224 (y224.length : Int) 0)) else (none)))) else (none))) else (none)) else (none)) else (none))) else (none)) else (none)) else (none)))) = some r := by rw [if_neg (show ¬ (false = true) by decide)] at H; exact H
      clear H
      have H := H1
      clear H1
      obtain ⟨y196, hy196⟩ : ∃ y_ : List Int, y_ = (([128, 128, 128, 128, 128, 128, 128, 128, 128, Int.tmod a1 4] : List Int)) := ⟨_, rfl⟩
      replace H : (if (wrap64 ((t182.length : Int) + 1)) = 0 then (none) else (if 0 ≤ (Int.tmod (wrap64 (a1)) (wrap64 ((t182.length : Int) + 1))) then (if (Int.tmod (wrap64 (a1)) (wrap64 ((t182.length : Int) + 1))) ≤ (t182.length : Int) then (if ([] : List Int).length + t182.length < 140737488355328 then ((some (([] : List Int) ++ t182 : List Int)).bind fun y204 => (if y204.length + l2.length < 140737488355328 then (if 0 ≤ (Int.tmod (wrap64 (a1)) 9) then (if (Int.tmod (wrap64 (a1)) 9) ≤ (y196.length : Int) then ((some (y196.take ((Int.tmod (wrap64 (a1)) 9) : Int).toNat : List Int)).bind fun y210 => (if ([] : List Int).length + y210.length < 140737488355328 then ((some (([] : List Int) ++ y210 : List Int)).bind fun y215 => ((some (([0] : List Int) : List Int)).bind fun y218 => (if y215.length + y218.length < 140737488355328 then ((some (([l2, t182, (t182.take ((Int.tmod (wrap64 (a1)) (wrap64 ((t182.length : Int) + 1))) : Int).toNat), (y204 ++ l2), y196, (y215 ++ y218)] : List (List Int)) : List (List Int))).bind fun y224 => (repriselaw1_LebTells.l0 kj10 a1 l2 a3 y224 (y224.length : Int) 0)) else (none)))) else (none))) else (none)) else (none)) else (none))) else (none)) else (none)) else (none))) = some r := by first | (rw [hy196]; with_reducible exact H) | (have H2_ := (Option.bind_some _ _).symm.trans H; rw [hy196]; with_reducible exact H2_) | (have H2_ := (Option.bind_some _ _).symm.trans H; with_reducible exact H2_) | with_reducible exact H | (rw [hy196]; exact H) | exact H
      have Ny196 := Aside0.mk hy196
      clear hy196
      by_cases c54 : (wrap64 ((t182.length : Int) + 1)) = 0
      ·rw [if_pos c54] at H
       exact absurd H (by simp)
      ·rw [if_neg c54] at H
       have c54b0 : ((wrap64 ((t182.length : Int) + 1)) == 0) = false := beq_eq_false_iff_ne.mpr c54
       have c54b1 : ((wrap64 ((t182.length : Int) + 1)) != 0) = true := bne_iff_ne.mpr c54
       obtain ⟨ji55, hji55⟩ : ∃ j_ : Int, (Int.tmod (wrap64 (a1)) (wrap64 ((t182.length : Int) + 1))) = j_ := ⟨_, rfl⟩
       replace H : (if 0 ≤ (ji55) then (if (ji55) ≤ (t182.length : Int) then (if ([] : List Int).length + t182.length < 140737488355328 then ((some (([] : List Int) ++ t182 : List Int)).bind fun y204 => (if y204.length + l2.length < 140737488355328 then (if 0 ≤ (Int.tmod (wrap64 (a1)) 9) then (if (Int.tmod (wrap64 (a1)) 9) ≤ (y196.length : Int) then ((some (y196.take ((Int.tmod (wrap64 (a1)) 9) : Int).toNat : List Int)).bind fun y210 => (if ([] : List Int).length + y210.length < 140737488355328 then ((some (([] : List Int) ++ y210 : List Int)).bind fun y215 => ((some (([0] : List Int) : List Int)).bind fun y218 => (if y215.length + y218.length < 140737488355328 then ((some (([l2, t182, (t182.take ((ji55) : Int).toNat), (y204 ++ l2), y196, (y215 ++ y218)] : List (List Int)) : List (List Int))).bind fun y224 => (repriselaw1_LebTells.l0 kj10 a1 l2 a3 y224 (y224.length : Int) 0)) else (none)))) else (none))) else (none)) else (none)) else (none))) else (none)) else (none)) else (none)) = some r := by first | (rw [hji55] at H; exact H) | (simp only [hji55] at H ⊢; exact H)
       by_cases c56 : 0 ≤ (ji55)
       ·rw [if_pos c56] at H
        have c56b0 := eq_true c56
        have c56b1 : decide (0 ≤ (ji55)) = true := decide_eq_true c56
        clear c56
        by_cases c57 : (ji55) ≤ (t182.length : Int)
        ·rw [if_pos c57] at H
         have c57b0 := eq_true c57
         have c57b1 : decide ((ji55) ≤ (t182.length : Int)) = true := decide_eq_true c57
         clear c57
         obtain ⟨y199, hy199⟩ : ∃ y_ : List Int, y_ = (t182.take ((ji55) : Int).toNat) := ⟨_, rfl⟩
         replace H : (if ([] : List Int).length + t182.length < 140737488355328 then ((some (([] : List Int) ++ t182 : List Int)).bind fun y204 => (if y204.length + l2.length < 140737488355328 then (if 0 ≤ (Int.tmod (wrap64 (a1)) 9) then (if (Int.tmod (wrap64 (a1)) 9) ≤ (y196.length : Int) then ((some (y196.take ((Int.tmod (wrap64 (a1)) 9) : Int).toNat : List Int)).bind fun y210 => (if ([] : List Int).length + y210.length < 140737488355328 then ((some (([] : List Int) ++ y210 : List Int)).bind fun y215 => ((some (([0] : List Int) : List Int)).bind fun y218 => (if y215.length + y218.length < 140737488355328 then ((some (([l2, t182, y199, (y204 ++ l2), y196, (y215 ++ y218)] : List (List Int)) : List (List Int))).bind fun y224 => (repriselaw1_LebTells.l0 kj10 a1 l2 a3 y224 (y224.length : Int) 0)) else (none)))) else (none))) else (none)) else (none)) else (none))) else (none)) = some r := by first | (rw [hy199]; with_reducible exact H) | (have H2_ := (Option.bind_some _ _).symm.trans H; rw [hy199]; with_reducible exact H2_) | (have H2_ := (Option.bind_some _ _).symm.trans H; with_reducible exact H2_) | with_reducible exact H | (rw [hy199]; exact H) | exact H
         have Ny199 := Aside0.mk hy199
         clear hy199
         by_cases c58 : ([] : List Int).length + t182.length < 140737488355328
         ·rw [if_pos c58] at H
          have LMc58 := Aside0.mk c58
          clear c58
          obtain ⟨y204, hy204⟩ : ∃ y_ : List Int, y_ = (([] : List Int) ++ t182) := ⟨_, rfl⟩
          replace H : (if y204.length + l2.length < 140737488355328 then (if 0 ≤ (Int.tmod (wrap64 (a1)) 9) then (if (Int.tmod (wrap64 (a1)) 9) ≤ (y196.length : Int) then ((some (y196.take ((Int.tmod (wrap64 (a1)) 9) : Int).toNat : List Int)).bind fun y210 => (if ([] : List Int).length + y210.length < 140737488355328 then ((some (([] : List Int) ++ y210 : List Int)).bind fun y215 => ((some (([0] : List Int) : List Int)).bind fun y218 => (if y215.length + y218.length < 140737488355328 then ((some (([l2, t182, y199, (y204 ++ l2), y196, (y215 ++ y218)] : List (List Int)) : List (List Int))).bind fun y224 => (repriselaw1_LebTells.l0 kj10 a1 l2 a3 y224 (y224.length : Int) 0)) else (none)))) else (none))) else (none)) else (none)) else (none)) = some r := by first | (rw [hy204]; with_reducible exact H) | (have H2_ := (Option.bind_some _ _).symm.trans H; rw [hy204]; with_reducible exact H2_) | (have H2_ := (Option.bind_some _ _).symm.trans H; with_reducible exact H2_) | with_reducible exact H | (rw [hy204]; exact H) | exact H
          have Ny204 := Aside0.mk hy204
          clear hy204
          by_cases c59 : y204.length + l2.length < 140737488355328
          ·rw [if_pos c59] at H
           have LMc59 := Aside0.mk c59
           clear c59
           obtain ⟨y207, hy207⟩ : ∃ y_ : List Int, y_ = (y204 ++ l2) := ⟨_, rfl⟩
           replace H : (if 0 ≤ (Int.tmod (wrap64 (a1)) 9) then (if (Int.tmod (wrap64 (a1)) 9) ≤ (y196.length : Int) then ((some (y196.take ((Int.tmod (wrap64 (a1)) 9) : Int).toNat : List Int)).bind fun y210 => (if ([] : List Int).length + y210.length < 140737488355328 then ((some (([] : List Int) ++ y210 : List Int)).bind fun y215 => ((some (([0] : List Int) : List Int)).bind fun y218 => (if y215.length + y218.length < 140737488355328 then ((some (([l2, t182, y199, y207, y196, (y215 ++ y218)] : List (List Int)) : List (List Int))).bind fun y224 => (repriselaw1_LebTells.l0 kj10 a1 l2 a3 y224 (y224.length : Int) 0)) else (none)))) else (none))) else (none)) else (none)) = some r := by first | (rw [hy207]; with_reducible exact H) | (have H2_ := (Option.bind_some _ _).symm.trans H; rw [hy207]; with_reducible exact H2_) | (have H2_ := (Option.bind_some _ _).symm.trans H; with_reducible exact H2_) | with_reducible exact H | (rw [hy207]; exact H) | exact H
           have Ny207 := Aside0.mk hy207
           clear hy207
           obtain ⟨ji60, hji60⟩ : ∃ j_ : Int, (Int.tmod (wrap64 (a1)) 9) = j_ := ⟨_, rfl⟩
           replace H : (if 0 ≤ (ji60) then (if (ji60) ≤ (y196.length : Int) then ((some (y196.take ((ji60) : Int).toNat : List Int)).bind fun y210 => (if ([] : List Int).length + y210.length < 140737488355328 then ((some (([] : List Int) ++ y210 : List Int)).bind fun y215 => ((some (([0] : List Int) : List Int)).bind fun y218 => (if y215.length + y218.length < 140737488355328 then ((some (([l2, t182, y199, y207, y196, (y215 ++ y218)] : List (List Int)) : List (List Int))).bind fun y224 => (repriselaw1_LebTells.l0 kj10 a1 l2 a3 y224 (y224.length : Int) 0)) else (none)))) else (none))) else (none)) else (none)) = some r := by first | (rw [hji60] at H; exact H) | (simp only [hji60] at H ⊢; exact H)
           by_cases c61 : 0 ≤ (ji60)
           ·rw [if_pos c61] at H
            have c61b0 := eq_true c61
            have c61b1 : decide (0 ≤ (ji60)) = true := decide_eq_true c61
            clear c61
            by_cases c62 : (ji60) ≤ (y196.length : Int)
            ·rw [if_pos c62] at H
             have c62b0 := eq_true c62
             have c62b1 : decide ((ji60) ≤ (y196.length : Int)) = true := decide_eq_true c62
             clear c62
             obtain ⟨y210, hy210⟩ : ∃ y_ : List Int, y_ = (y196.take ((ji60) : Int).toNat) := ⟨_, rfl⟩
             replace H : (if ([] : List Int).length + y210.length < 140737488355328 then ((some (([] : List Int) ++ y210 : List Int)).bind fun y215 => ((some (([0] : List Int) : List Int)).bind fun y218 => (if y215.length + y218.length < 140737488355328 then ((some (([l2, t182, y199, y207, y196, (y215 ++ y218)] : List (List Int)) : List (List Int))).bind fun y224 => (repriselaw1_LebTells.l0 kj10 a1 l2 a3 y224 (y224.length : Int) 0)) else (none)))) else (none)) = some r := by first | (rw [hy210]; with_reducible exact H) | (have H2_ := (Option.bind_some _ _).symm.trans H; rw [hy210]; with_reducible exact H2_) | (have H2_ := (Option.bind_some _ _).symm.trans H; with_reducible exact H2_) | with_reducible exact H | (rw [hy210]; exact H) | exact H
             have Ny210 := Aside0.mk hy210
             clear hy210
             by_cases c63 : ([] : List Int).length + y210.length < 140737488355328
             ·rw [if_pos c63] at H
              have LMc63 := Aside0.mk c63
              clear c63
              obtain ⟨y215, hy215⟩ : ∃ y_ : List Int, y_ = (([] : List Int) ++ y210) := ⟨_, rfl⟩
              replace H : ((some (([0] : List Int) : List Int)).bind fun y218 => (if y215.length + y218.length < 140737488355328 then ((some (([l2, t182, y199, y207, y196, (y215 ++ y218)] : List (List Int)) : List (List Int))).bind fun y224 => (repriselaw1_LebTells.l0 kj10 a1 l2 a3 y224 (y224.length : Int) 0)) else (none))) = some r := by first | (rw [hy215]; with_reducible exact H) | (have H2_ := (Option.bind_some _ _).symm.trans H; rw [hy215]; with_reducible exact H2_) | (have H2_ := (Option.bind_some _ _).symm.trans H; with_reducible exact H2_) | with_reducible exact H | (rw [hy215]; exact H) | exact H
              have Ny215 := Aside0.mk hy215
              clear hy215
              obtain ⟨y218, hy218⟩ : ∃ y_ : List Int, y_ = (([0] : List Int)) := ⟨_, rfl⟩
              replace H : (if y215.length + y218.length < 140737488355328 then ((some (([l2, t182, y199, y207, y196, (y215 ++ y218)] : List (List Int)) : List (List Int))).bind fun y224 => (repriselaw1_LebTells.l0 kj10 a1 l2 a3 y224 (y224.length : Int) 0)) else (none)) = some r := by first | (rw [hy218]; with_reducible exact H) | (have H2_ := (Option.bind_some _ _).symm.trans H; rw [hy218]; with_reducible exact H2_) | (have H2_ := (Option.bind_some _ _).symm.trans H; with_reducible exact H2_) | with_reducible exact H | (rw [hy218]; exact H) | exact H
              have Ny218 := Aside0.mk hy218
              clear hy218
              by_cases c64 : y215.length + y218.length < 140737488355328
              ·rw [if_pos c64] at H
               have LMc64 := Aside0.mk c64
               clear c64
               obtain ⟨y221, hy221⟩ : ∃ y_ : List Int, y_ = (y215 ++ y218) := ⟨_, rfl⟩
               replace H : ((some (([l2, t182, y199, y207, y196, y221] : List (List Int)) : List (List Int))).bind fun y224 => (repriselaw1_LebTells.l0 kj10 a1 l2 a3 y224 (y224.length : Int) 0)) = some r := by first | (rw [hy221]; with_reducible exact H) | (have H2_ := (Option.bind_some _ _).symm.trans H; rw [hy221]; with_reducible exact H2_) | (have H2_ := (Option.bind_some _ _).symm.trans H; with_reducible exact H2_) | with_reducible exact H | (rw [hy221]; exact H) | exact H
               have Ny221 := Aside0.mk hy221
               clear hy221
               obtain ⟨y224, hy224⟩ : ∃ y_ : List (List Int), y_ = (([l2, t182, y199, y207, y196, y221] : List (List Int))) := ⟨_, rfl⟩
               replace H : (repriselaw1_LebTells.l0 kj10 a1 l2 a3 y224 (y224.length : Int) 0) = some r := by first | (rw [hy224]; with_reducible exact H) | (have H2_ := (Option.bind_some _ _).symm.trans H; rw [hy224]; with_reducible exact H2_) | (have H2_ := (Option.bind_some _ _).symm.trans H; with_reducible exact H2_) | with_reducible exact H | (rw [hy224]; exact H) | exact H
               have Ny224 := Aside0.mk hy224
               clear hy224
               have H' := Aside0.mk H
               clear H
               try go_wp2_with (first | ((with_reducible refine gate_dst (N := 82) rfl ?_); refine Kd.R_lit (Kd.int .u8) _ 5 ?hg (N := 82) ?hd (xs := ([128, 128, 128, 128, 128, 128, 128, 128, 128, Int.tmod a1 4] : List Int)) (inner := [.int .u8 128, .int .u8 128, .int .u8 128, .int .u8 128, .int .u8 128, .int .u8 128, .int .u8 128, .int .u8 128, .int .u8 128, .int .u8 (Int.tmod a1 4)]) (ok := fun _ => True) (okp := fun _ => True) ?hr ?hp (fun _ hk => hk) trivial (Below.refl _ _) (Nat.le_refl _) (by simp) ?_; (case hd => rfl); (case hg => rfl); (case hr => first | (go_simp; done) | (go_simp; rfl)); (case hp => exact (Reps.one (show Kd.M (Kd.int .u8) _ _ _ 128 [.int .u8 128] from rfl) (Reps.one (show Kd.M (Kd.int .u8) _ _ _ 128 [.int .u8 128] from rfl) (Reps.one (show Kd.M (Kd.int .u8) _ _ _ 128 [.int .u8 128] from rfl) (Reps.one (show Kd.M (Kd.int .u8) _ _ _ 128 [.int .u8 128] from rfl) (Reps.one (show Kd.M (Kd.int .u8) _ _ _ 128 [.int .u8 128] from rfl) (Reps.one (show Kd.M (Kd.int .u8) _ _ _ 128 [.int .u8 128] from rfl) (Reps.one (show Kd.M (Kd.int .u8) _ _ _ 128 [.int .u8 128] from rfl) (Reps.one (show Kd.M (Kd.int .u8) _ _ _ 128 [.int .u8 128] from rfl) (Reps.one (show Kd.M (Kd.int .u8) _ _ _ 128 [.int .u8 128] from rfl) (Reps.one (show Kd.M (Kd.int .u8) _ _ _ (Int.tmod a1 4) [.int .u8 (Int.tmod a1 4)] from rfl) (Reps.none _ _)))))))))))); intro v197 w65 ho66 hb hg_ hnew_; clear hg_ hnew_; (first | rw [← Ny196.out] at ho66 | (simp only [Int.reduceToNat] at ho66; rw [← Ny196.out] at ho66)); have n0_ := Aside0.mk (Kd.V_elder' (by (with_reducible repeat (first | apply Kd.V_alloc | apply Kd.V_drewN | apply Kd.V_drew)); exact HO_2.out) (Kd.R_base ho66) hb); have n1_ := Aside0.mk (Kd.R_elder' (by (with_reducible repeat (first | apply Kd.R_alloc | apply Kd.R_drewN | apply Kd.R_drew)); exact HO_10.out) (Kd.R_base ho66) hb); have n2_ := Aside0.mk (Kd.R_lower (Kd.R_new' (Kd.R_newM (M := fun k_ => (w.heap.size ≤ k_)) ho66 (below_size (by repeat (first | (with_reducible first | exact HB.out | apply below_alloc | apply pw_below_drewN | apply below_drew1) | exact HB.out))) (fun k_ h_ => h_)) (Kd.R_lt (by (with_reducible repeat (first | apply Kd.R_alloc | apply Kd.R_drewN | apply Kd.R_drew)); exact HO_10.out))) (below_size (by repeat (first | (with_reducible first | exact HB.out | apply below_alloc | apply pw_below_drewN | apply below_drew1) | exact HB.out)))); have n3_ := Aside0.mk (below_step (by repeat (first | (with_reducible first | exact HB.out | apply below_alloc | apply pw_below_drewN | apply below_drew1) | exact HB.out)) hb); clear HO_2; clear HO_10; clear HB; have HO_2 := n0_; have HO_10 := n1_; have HO198 := n2_; have HB := n3_; clear n0_ n1_ n2_ n3_; clear hb ho66; obtain ⟨Ao67, co67, eo67⟩ := Kd.R_slice HO_10.out; subst eo67))
               have n0_ := Aside0.mk (Kd.V_drew HO_2.out)
               have n1_ := Aside0.mk (Kd.R_drew HO_10.out)
               have n2_ := Aside0.mk (Kd.R_drew HO198.out)
               have n3_ := Aside0.mk (below_drew1 HB.out)
               clear HO_2
               clear HO_10
               clear HO198
               clear HB
               have HO_2 := n0_
               have HO_10 := n1_
               have HO198 := n2_
               have HB := n3_
               clear n0_ n1_ n2_ n3_
               have q69 : ((ji55) : Int) ≤ ((t182.length : Int) : Int) := of_decide_eq_true (by first | (with_reducible assumption) | assumption)
               obtain ⟨i069, hi069, _, hsz69, _⟩ := info_parts info5
               have hroom69 : t182.length ≤ co67 := (Kd.R_reads' HO_10.out).2.1
               have hC69 : Kd.F (Kd.int .u8) _ _ Ao67 t182.length t182 := (Kd.V_at (base := w.heap.size) (Kd.V_mono (ok' := (fun k_ => ((P2_ k_ ∨ w.heap.size ≤ k_) ∧ some k_ ≠ (v197 : Value).ownBlock))) (Kd.R_V HO_10.out) (fun k_ hk => ⟨(.inr (hk.1)), hk.2⟩))).2.2
               have hcut69 := cut_to (P := Try.prog) 23 5 .i64 Try.underlying23 hi069 Ao67 t182.length co67 (ji55) (of_decide_eq_true (by first | (with_reducible assumption) | assumption)) q69 hroom69
               have hr69 := Kd.F_take (m := ((ji55) : Int).toNat) hC69 (by omega)
               have hy69 : y199.length = ((ji55) : Int).toNat := (by rw [Ny199.out, List.length_take]; omega)
               rw [← Ny199.out] at hr69
               rw [← hy69] at hcut69
               have HO203 := Aside0.mk (show Kd.V (Kd.int .u8) 5 _ w.heap.size _ (.slice Ao67 y199.length co67) y199 from Kd.V_mk (by omega) hr69)
               have HC203 := Aside0.mk (show y199.length ≤ co67 from by omega)
               clear hr69 hC69 hroom69 hi069 hsz69
               have KY69 := Aside0.mk hy69
               clear hy69
               replace q69 := eq_true q69
               obtain ⟨Ao71, co71, eo71⟩ := Kd.R_slice HO198.out
               (first | subst eo71 | (injection eo71 with f1_ f2_ f3_; have f4_ := f1_.symm; have f5_ := f3_.symm; clear f1_ f2_ f3_; subst f4_; subst f5_))
               have q70 : ((ji60) : Int) ≤ ((y196.length : Int) : Int) := of_decide_eq_true (by first | (with_reducible assumption) | assumption)
               obtain ⟨i070, hi070, _, hsz70, _⟩ := info_parts info5
               have hroom70 : y196.length ≤ co71 := (Kd.R_reads' HO198.out).2.1
               have hC70 : Kd.F (Kd.int .u8) _ _ Ao71 y196.length y196 := (Kd.V_at (base := w.heap.size) (Kd.V_mono (ok' := (fun k_ => (((P2_ k_ ∨ w.heap.size ≤ k_) ∧ True) ∧ some k_ ≠ (.slice Ao67 t182.length co67 : Value).ownBlock))) (Kd.R_V HO198.out) (fun k_ hk => ⟨⟨(.inr (hk.1.1)), trivial⟩, hk.2⟩))).2.2
               have hcut70 := cut_to (P := Try.prog) 23 5 .i64 Try.underlying23 hi070 Ao71 y196.length co71 (ji60) (of_decide_eq_true (by first | (with_reducible assumption) | assumption)) q70 hroom70
               have hr70 := Kd.F_take (m := ((ji60) : Int).toNat) hC70 (by omega)
               have hy70 : y210.length = ((ji60) : Int).toNat := (by rw [Ny210.out, List.length_take]; omega)
               rw [← Ny210.out] at hr70
               rw [← hy70] at hcut70
               have HO214 := Aside0.mk (show Kd.V (Kd.int .u8) 5 _ w.heap.size _ (.slice Ao71 y210.length co71) y210 from Kd.V_mk (by omega) hr70)
               have HC214 := Aside0.mk (show y210.length ≤ co71 from by omega)
               clear hr70 hC70 hroom70 hi070 hsz70
               have KY70 := Aside0.mk hy70
               clear hy70
               replace q70 := eq_true q70
               refine start_ (n := 26) (S := fun w' => True) (ds := []) #[O,O,O,O,O,O,O,O,O,O,O,O,O,O,O,O,O,O,O,O,O,O,O,O,O,O] (by kernel_rfl) rfl rfl trivial (fun hHeld => ?_); refine with_tabW repriselaw1_LebTells.tab10 repriselaw1_LebTells.bits10 (fun HT_ HW_ => ?_)
               generalize w65.drew = w68 at HO_2 HO_10 HO198 HB HO203 HO214 hHeld ⊢
               refine pure_ (i := 0) (N := some 83) (v := ?_) (a' := ?_) #[I,O,O,O,O,O,O,O,O,O,O,O,O,O,O,O,O,O,O,O,O,O,O,O,O,O] rfl rfl (any_of HT_.out (by kernel_rfl)) (fun _ _ _ h => h) (Or.inl ⟨by rfl, ?_⟩) ?_ ?_
               rotate_left
               ·intro w'
                go_simp
                with_reducible rfl
               rotate_left
               ·simp only [Act.put,q1,q2,q3,i64_w,i32_w]
                rfl
               refine pure_ (i := 1) (N := some 84) (v := ?_) (a' := ?_) #[I,I,O,O,O,O,O,O,O,O,O,O,O,O,O,O,O,O,O,O,O,O,O,O,O,O] rfl rfl (any_of HT_.out (by kernel_rfl)) (fun _ _ _ h => h) (Or.inl ⟨by rfl, ?_⟩) ?_ ?_
               rotate_left
               ·intro w'
                go_simp
                with_reducible rfl
               rotate_left
               ·simp only [Act.put,q1,q2,q3,i64_w,i32_w]
                rfl
               refine pure_ (i := 2) (N := some 85) (v := ?_) (a' := ?_) #[I,I,I,O,O,O,O,O,O,O,O,O,O,O,O,O,O,O,O,O,O,O,O,O,O,O] rfl rfl (any_of HT_.out (by kernel_rfl)) (fun _ _ _ h => h) (Or.inl ⟨by rfl, ?_⟩) ?_ ?_
               rotate_left
               ·intro w'
                go_simp
                with_reducible rfl
               rotate_left
               ·simp only [Act.put,q1,q2,q3,i64_w,i32_w]
                rfl
               refine pure_ (i := 3) (N := some 86) (v := ?_) (a' := ?_) #[I,I,I,I,O,O,O,O,O,O,O,O,O,O,O,O,O,O,O,O,O,O,O,O,O,O] rfl rfl (any_of HT_.out (by kernel_rfl)) (fun _ _ _ h => h) (Or.inl ⟨by rfl, ?_⟩) ?_ ?_
               rotate_left
               ·intro w'
                go_simp
                with_reducible rfl
               rotate_left
               ·simp only [Act.put,q1,q2,q3,i64_w,i32_w]
                rfl
               refine pure_ (i := 4) (N := some 87) (v := ?_) (a' := ?_) #[I,I,I,I,I,O,O,O,O,O,O,O,O,O,O,O,O,O,O,O,O,O,O,O,O,O] rfl rfl (any_of HT_.out (by kernel_rfl)) (fun _ _ _ h => h) (Or.inl ⟨by rfl, ?_⟩) ?_ ?_
               rotate_left
               ·intro w'
                go_simp
                with_reducible rfl
               rotate_left
               ·simp only [Act.put,q1,q2,q3,i64_w,i32_w]
                rfl
               refine pure_ (i := 5) (N := some 88) (v := ?_) (a' := ?_) #[I,I,I,I,I,I,O,O,O,O,O,O,O,O,O,O,O,O,O,O,O,O,O,O,O,O] rfl rfl (any_of HT_.out (by kernel_rfl)) (fun _ _ _ h => h) (Or.inl ⟨by rfl, ?_⟩) ?_ ?_
               rotate_left
               ·intro w'
                go_simp
                with_reducible rfl
               rotate_left
               ·simp only [Act.put,q1,q2,q3,i64_w,i32_w]
                rfl
               refine pure_ (i := 6) (N := some 89) (v := ?_) (a' := ?_) #[I,I,I,I,I,I,I,O,O,O,O,O,O,O,O,O,O,O,O,O,O,O,O,O,O,O] rfl rfl (any_of HT_.out (by kernel_rfl)) (fun _ _ _ h => h) (Or.inl ⟨by rfl, ?_⟩) ?_ ?_
               rotate_left
               ·intro w'
                go_simp
                with_reducible rfl
               rotate_left
               ·simp only [Act.put,q1,q2,q3,i64_w,i32_w]
                rfl
               refine pure_ (i := 7) (N := some 90) (v := ?_) (a' := ?_) #[I,I,I,I,I,I,I,I,O,O,O,O,O,O,O,O,O,O,O,O,O,O,O,O,O,O] rfl rfl (any_of HT_.out (by kernel_rfl)) (fun _ _ _ h => h) (Or.inl ⟨by rfl, ?_⟩) ?_ ?_
               rotate_left
               ·intro w'
                go_simp
                with_reducible rfl
               rotate_left
               ·simp only [Act.put,q1,q2,q3,i64_w,i32_w]
                rfl
               refine pure_ (i := 8) (N := some 91) (v := ?_) (a' := ?_) #[I,I,I,I,I,I,I,I,I,O,O,O,O,O,O,O,O,O,O,O,O,O,O,O,O,O] rfl rfl (any_of HT_.out (by kernel_rfl)) (fun _ _ _ h => h) (Or.inl ⟨by rfl, ?_⟩) ?_ ?_
               rotate_left
               ·intro w'
                go_simp
                with_reducible rfl
               rotate_left
               ·simp only [Act.put,q1,q2,q3,i64_w,i32_w]
                rfl
               refine pure_ (i := 9) (N := some 92) (v := ?_) (a' := ?_) #[I,I,I,I,I,I,I,I,I,I,O,O,O,O,O,O,O,O,O,O,O,O,O,O,O,O] rfl rfl (any_of HT_.out (by kernel_rfl)) (fun _ _ _ h => h) (Or.inl ⟨by rfl, ?_⟩) ?_ ?_
               rotate_left
               ·intro w'
                go_simp
                with_reducible rfl
               rotate_left
               ·simp only [Act.put,q1,q2,q3,i64_w,i32_w]
                rfl
               refine pure_ (i := 10) (N := some 93) (v := ?_) (a' := ?_) #[I,I,I,I,I,I,I,I,I,I,I,O,O,O,O,O,O,O,O,O,O,O,O,O,O,O] rfl rfl (any_of HT_.out (by kernel_rfl)) (fun _ _ _ h => h) (Or.inl ⟨by rfl, ?_⟩) ?_ ?_
               rotate_left
               ·intro w'
                go_simp
                with_reducible rfl
               rotate_left
               ·simp only [Act.put,q1,q2,q3,i64_w,i32_w]
                rfl
               refine pure_ (i := 12) (N := some 95) (v := ?_) (a' := ?_) #[I,I,I,I,I,I,I,I,I,I,I,O,I,O,O,O,O,O,O,O,O,O,O,O,O,O] rfl rfl (any_of HT_.out (by kernel_rfl)) (fun _ _ _ h => h) (Or.inl ⟨by rfl, ?_⟩) ?_ ?_
               rotate_left
               ·intro w'
                go_simp
                with_reducible rfl
               rotate_left
               ·simp only [Act.put,q1,q2,q3,i64_w,i32_w]
                rfl
               refine pure_ (i := 14) (N := some 97) (v := ?_) (a' := ?_) #[I,I,I,I,I,I,I,I,I,I,I,O,I,O,I,O,O,O,O,O,O,O,O,O,O,O] rfl rfl (any_of HT_.out (by kernel_rfl)) (fun _ _ _ h => h) (Or.inl ⟨by rfl, ?_⟩) ?_ ?_
               rotate_left
               ·intro w'
                go_simp
                with_reducible rfl
               rotate_left
               ·simp only [Act.put,q1,q2,q3,i64_w,i32_w]
                rfl
               refine pure_ (i := 15) (N := some 98) (v := ?_) (a' := ?_) #[I,I,I,I,I,I,I,I,I,I,I,O,I,O,I,I,O,O,O,O,O,O,O,O,O,O] rfl rfl (any_of HT_.out (by kernel_rfl)) (fun _ _ _ h => h) (Or.inl ⟨by rfl, ?_⟩) ?_ ?_
               rotate_left
               ·intro w'
                go_simp
                with_reducible rfl
               rotate_left
               ·simp only [Act.put,q1,q2,q3,i64_w,i32_w]
                rfl
               refine pure_ (i := 16) (N := some 99) (v := ?_) (a' := ?_) #[I,I,I,I,I,I,I,I,I,I,I,O,I,O,I,I,I,O,O,O,O,O,O,O,O,O] rfl rfl (any_of HT_.out (by kernel_rfl)) (fun _ _ _ h => h) (Or.inl ⟨by rfl, ?_⟩) ?_ ?_
               rotate_left
               ·intro w'
                go_simp
                with_reducible rfl
               rotate_left
               ·simp only [Act.put,q1,q2,q3,i64_w,i32_w]
                rfl
               refine pure_ (i := 17) (N := some 100) (v := ?_) (a' := ?_) #[I,I,I,I,I,I,I,I,I,I,I,O,I,O,I,I,I,I,O,O,O,O,O,O,O,O] rfl rfl (any_of HT_.out (by kernel_rfl)) (fun _ _ _ h => h) (Or.inl ⟨by rfl, ?_⟩) ?_ ?_
               rotate_left
               ·intro w'
                go_simp
                with_reducible rfl
               rotate_left
               ·simp only [Act.put,q1,q2,q3,i64_w,i32_w]
                rfl
               refine pure_ (i := 18) (N := some 101) (v := ?_) (a' := ?_) #[I,I,I,I,I,I,I,I,I,I,I,O,I,O,I,I,I,I,I,O,O,O,O,O,O,O] rfl rfl (any_of HT_.out (by kernel_rfl)) (fun _ _ _ h => h) (Or.inl ⟨by rfl, ?_⟩) ?_ ?_
               rotate_left
               ·intro w'
                go_simp
                with_reducible rfl
               rotate_left
               ·simp only [Act.put,q1,q2,q3,i64_w,i32_w]
                rfl
               refine pure_ (i := 19) (N := some 102) (v := ?_) (a' := ?_) #[I,I,I,I,I,I,I,I,I,I,I,O,I,O,I,I,I,I,I,I,O,O,O,O,O,O] rfl rfl (any_of HT_.out (by kernel_rfl)) (fun _ _ _ h => h) (Or.inl ⟨by rfl, ?_⟩) ?_ ?_
               rotate_left
               ·intro w'
                go_simp
                with_reducible rfl
               rotate_left
               ·simp only [Act.put,q1,q2,q3,i64_w,i32_w]
                rfl
               refine pure_ (i := 25) (N := some 108) (v := ?_) (a' := ?_) #[I,I,I,I,I,I,I,I,I,I,I,O,I,O,I,I,I,I,I,I,O,O,O,O,O,I] rfl rfl (any_of HT_.out (by kernel_rfl)) (fun _ _ _ h => h) (Or.inl ⟨by rfl, ?_⟩) ?_ ?_
               rotate_left
               ·intro w'
                go_simp
                with_reducible rfl
               rotate_left
               ·simp only [Act.put,q1,q2,q3,i64_w,i32_w]
                rfl
               refine join_ (σ := Value × Value × Value × Value) 3 #[I,I,I,I,I,I,I,I,I,I,I,I,I,I,I,I,I,I,I,I,I,I,O,O,O,I] (fun s_ => [(94, s_.1), (96, s_.2.1), (103, s_.2.2.1), (104, s_.2.2.2)]) (fun s_ w' => (Kd.R (Kd.int .u8) 5 w' w.heap.size (fun k_ => (w.heap.size ≤ k_) ∧ some k_ ≠ (s_.2.1 : Value).ownBlock ∧ some k_ ≠ (s_.2.2.1 : Value).ownBlock ∧ some k_ ≠ (s_.2.2.2 : Value).ownBlock ∧ some k_ ≠ (.slice Ao67 t182.length co67 : Value).ownBlock) (.slice Ao71 y196.length co71) y196) ∧ (Kd.V (Kd.int .u8) 5 w' w.heap.size (fun k_ => (P2_ k_ ∨ w.heap.size ≤ k_) ∧ some k_ ≠ (.slice Ao71 y196.length co71 : Value).ownBlock ∧ some k_ ≠ (s_.2.1 : Value).ownBlock ∧ some k_ ≠ (s_.2.2.1 : Value).ownBlock ∧ some k_ ≠ (s_.2.2.2 : Value).ownBlock) (.slice Ao67 y199.length co67) y199) ∧ (Kd.R (Kd.int .u8) 5 w' w.heap.size (fun k_ => (w.heap.size ≤ k_) ∧ some k_ ≠ (.slice Ao71 y196.length co71 : Value).ownBlock ∧ some k_ ≠ (s_.2.2.1 : Value).ownBlock ∧ some k_ ≠ (s_.2.2.2 : Value).ownBlock ∧ some k_ ≠ (.slice Ao67 t182.length co67 : Value).ownBlock) s_.2.1 y207) ∧ (Kd.V (Kd.int .u8) 5 w' w.heap.size (fun k_ => (P2_ k_ ∨ w.heap.size ≤ k_) ∧ some k_ ≠ (s_.2.1 : Value).ownBlock ∧ some k_ ≠ (s_.2.2.1 : Value).ownBlock ∧ some k_ ≠ (s_.2.2.2 : Value).ownBlock ∧ some k_ ≠ (.slice Ao67 t182.length co67 : Value).ownBlock) (.slice Ao71 y210.length co71) y210) ∧ (Kd.R (Kd.int .u8) 5 w' w.heap.size (fun k_ => (w.heap.size ≤ k_) ∧ some k_ ≠ (.slice Ao71 y196.length co71 : Value).ownBlock ∧ some k_ ≠ (s_.2.1 : Value).ownBlock ∧ some k_ ≠ (s_.2.2.2 : Value).ownBlock ∧ some k_ ≠ (.slice Ao67 t182.length co67 : Value).ownBlock) s_.2.2.1 y215) ∧ (Kd.R (Kd.int .u8) 5 w' w.heap.size (fun k_ => (w.heap.size ≤ k_) ∧ some k_ ≠ (.slice Ao71 y196.length co71 : Value).ownBlock ∧ some k_ ≠ (s_.2.1 : Value).ownBlock ∧ some k_ ≠ (s_.2.2.1 : Value).ownBlock ∧ some k_ ≠ (.slice Ao67 t182.length co67 : Value).ownBlock) s_.2.2.2 y218) ∧ (Kd.R (Kd.int .u8) 5 w' w.heap.size (fun k_ => (w.heap.size ≤ k_) ∧ some k_ ≠ (.slice Ao71 y196.length co71 : Value).ownBlock ∧ some k_ ≠ (s_.2.1 : Value).ownBlock ∧ some k_ ≠ (s_.2.2.1 : Value).ownBlock ∧ some k_ ≠ (s_.2.2.2 : Value).ownBlock) (.slice Ao67 t182.length co67) t182) ∧ (Kd.V (Kd.int .u8) 5 w' w.heap.size (fun k_ => (P2_ k_ ∨ w.heap.size ≤ k_) ∧ some k_ ≠ (.slice Ao71 y196.length co71 : Value).ownBlock ∧ some k_ ≠ (s_.2.1 : Value).ownBlock ∧ some k_ ≠ (s_.2.2.1 : Value).ownBlock ∧ some k_ ≠ (s_.2.2.2 : Value).ownBlock ∧ some k_ ≠ (.slice Ao67 t182.length co67 : Value).ownBlock) (.slice A2 l2.length c2) l2) ∧ (Below w.heap.size w w')) ?_ ?_
               rotate_left
               ·intro hCont
                refine two_ (i := 11) (j := 21) (Ni := some 94) (Nj := some 104) #[I,I,I,I,I,I,I,I,I,I,I,I,I,O,I,I,I,I,I,I,O,O,O,O,O,I] #[I,I,I,I,I,I,I,I,I,I,I,O,I,O,I,I,I,I,I,I,O,I,O,O,O,I] rfl rfl rfl rfl (two_of HT_.out (by kernel_rfl)) (by decide) (by decide) (fun K hK => ?_) (fun K hK => ?_)
                ·skip
                 refine Kd.R_append_rows_step (Kd.int .u8) (w0 := w) w.heap.size (by rfl) (.const (.slice none 0 0)) (.tmp 93) 23 5 (.int .u8 0) 1 rfl Try.underlying23 info5 rfl (by decide) (by omega) (.slice none 0 0) ([] : List Int) t182 _ _ _ (fun k_ => (w.heap.size ≤ k_) ∧ some k_ ≠ (.slice Ao67 t182.length co67 : Value).ownBlock ∧ some k_ ≠ (.slice Ao71 y196.length co71 : Value).ownBlock) (fun _ => False) rfl rfl ?aO ?aR (fun _ _ h => h) (fun _ h => h.elim) ?aF ?aB ?aS ?aL ?_
                 (case aR => repeat (first | exact (Kd.R_reads' HO_10.out).2.2 | (with_reducible refine Kd.C_alloc ?_ _) | (with_reducible refine Kd.C_drewN ?_ _) | (with_reducible refine Kd.C_drew ?_)))
                 (case aB => exact (by repeat (first | (with_reducible first | exact HB.out | apply below_alloc | apply pw_below_drewN | apply below_drew1) | exact HB.out)))
                 (case aF => exact (fun k_ hk => ⟨(Nat.le_trans (below_size (by repeat (first | (with_reducible first | exact HB.out | apply below_alloc | apply pw_below_drewN | apply below_drew1) | exact HB.out))) hk), Kd.fresh' (Kd.R_lt (by (with_reducible repeat (first | apply Kd.R_alloc | apply Kd.R_drewN | apply Kd.R_drew)); exact HO_10.out)) k_ hk, Kd.fresh' (Kd.R_lt (by (with_reducible repeat (first | apply Kd.R_alloc | apply Kd.R_drewN | apply Kd.R_drew)); exact HO198.out)) k_ hk⟩))
                 (case aO => exact ((Kd.R_nil _ _ _ _ (fun k_ => (w.heap.size ≤ k_) ∧ some k_ ≠ (.slice Ao67 t182.length co67 : Value).ownBlock ∧ some k_ ≠ (.slice Ao71 y196.length co71 : Value).ownBlock))))
                 (case aS => exact (below_size (by repeat (first | (with_reducible first | exact HB.out | apply below_alloc | apply pw_below_drewN | apply below_drew1) | exact HB.out))))
                 (case aL => have := LMc58.out; omega)
                 intro v205 w72 ho hb hg hat
                 rw [← Ny204.out] at ho
                 have n0_ := Aside0.mk (Kd.V_afterv (Kd.V_apart_nil (by (with_reducible repeat (first | apply Kd.V_alloc | apply Kd.V_drewN | apply Kd.V_drew)); exact HO_2.out)) hg hat)
                 have n1_ := Aside0.mk (Kd.R_after (Kd.R_apart_nil (by (with_reducible repeat (first | apply Kd.R_alloc | apply Kd.R_drewN | apply Kd.R_drew)); exact HO_10.out)) hg hat)
                 have n2_ := Aside0.mk (Kd.R_after (Kd.R_apart_nil (by (with_reducible repeat (first | apply Kd.R_alloc | apply Kd.R_drewN | apply Kd.R_drew)); exact HO198.out)) hg hat)
                 have n3_ := Aside0.mk (Kd.V_afterv (Kd.V_apart_nil (by (with_reducible repeat (first | apply Kd.V_alloc | apply Kd.V_drewN | apply Kd.V_drew)); exact HO203.out)) hg hat)
                 have n4_ := Aside0.mk (Kd.V_afterv (Kd.V_apart_nil (by (with_reducible repeat (first | apply Kd.V_alloc | apply Kd.V_drewN | apply Kd.V_drew)); exact HO214.out)) hg hat)
                 have n5_ := Aside0.mk (hb)
                 have n6_ := Aside0.mk (ho)
                 clear HO_2
                 clear HO_10
                 clear HO198
                 clear HO203
                 clear HO214
                 clear HB
                 have HO_2 := n0_
                 have HO_10 := n1_
                 have HO198 := n2_
                 have HO203 := n3_
                 have HO214 := n4_
                 have HB := n5_
                 have HO206 := n6_
                 clear n0_ n1_ n2_ n3_ n4_ n5_ n6_
                 clear ho hb hg hat
                 refine hK.out _ _ trivial (fun hHeld => ?_)
                 clear hK K
                 refine norm_ (a' := ?_) ?_ ?_
                 rotate_left
                 ·show Act.put _ (some 94) _ = _
                  simp only [Act.put,q1,q2,q3,i64_w,i32_w]
                  rfl
                 refine two_ (i := 13) (j := 21) (Ni := some 96) (Nj := some 104) #[I,I,I,I,I,I,I,I,I,I,I,I,I,I,I,I,I,I,I,I,O,O,O,O,O,I] #[I,I,I,I,I,I,I,I,I,I,I,I,I,O,I,I,I,I,I,I,O,I,O,O,O,I] rfl rfl rfl rfl (two_of HT_.out (by kernel_rfl)) (by decide) (by decide) (fun K hK => ?_) (fun K hK => ?_)
                 ·skip
                  refine Kd.R_append_rows_step (Kd.int .u8) (w0 := w) w.heap.size (by rfl) (.tmp 94) (.tmp 95) 23 5 (.int .u8 0) 1 rfl Try.underlying23 info5 rfl (by decide) (by omega) v205 y204 l2 _ _ _ (fun k_ => (w.heap.size ≤ k_) ∧ some k_ ≠ (.slice Ao67 t182.length co67 : Value).ownBlock ∧ some k_ ≠ (.slice Ao71 y196.length co71 : Value).ownBlock) (fun _ => False) rfl rfl ?aO ?aR (fun _ _ h => h) (fun _ h => h.elim) ?aF ?aB ?aS ?aL ?_
                  (case aR => repeat (first | exact (Kd.V_reads' HO_2.out).2.2 | (with_reducible refine Kd.C_alloc ?_ _) | (with_reducible refine Kd.C_drewN ?_ _) | (with_reducible refine Kd.C_drew ?_)))
                  (case aB => exact (by repeat (first | (with_reducible first | exact HB.out | apply below_alloc | apply pw_below_drewN | apply below_drew1) | exact HB.out)))
                  (case aF => exact (fun k_ hk => ⟨(Nat.le_trans (below_size (by repeat (first | (with_reducible first | exact HB.out | apply below_alloc | apply pw_below_drewN | apply below_drew1) | exact HB.out))) hk), Kd.fresh' (Kd.R_lt (by (with_reducible repeat (first | apply Kd.R_alloc | apply Kd.R_drewN | apply Kd.R_drew)); exact HO_10.out)) k_ hk, Kd.fresh' (Kd.R_lt (by (with_reducible repeat (first | apply Kd.R_alloc | apply Kd.R_drewN | apply Kd.R_drew)); exact HO198.out)) k_ hk⟩))
                  (case aO => exact (by (with_reducible repeat (first | apply Kd.R_alloc | apply Kd.R_drewN | apply Kd.R_drew)); exact HO206.out))
                  (case aS => exact (below_size (by repeat (first | (with_reducible first | exact HB.out | apply below_alloc | apply pw_below_drewN | apply below_drew1) | exact HB.out))))
                  (case aL => have := LMc59.out; omega)
                  intro v208 w73 ho hb hg hat
                  rw [← Ny207.out] at ho
                  have n0_ := Aside0.mk (Kd.V_afterv (ok := (fun k_ => (P2_ k_ ∨ w.heap.size ≤ k_) ∧ some k_ ≠ (.slice Ao67 t182.length co67 : Value).ownBlock ∧ some k_ ≠ (.slice Ao71 y196.length co71 : Value).ownBlock)) (by (with_reducible repeat (first | apply Kd.V_alloc | apply Kd.V_drewN | apply Kd.V_drew)); exact Kd.V_mono HO_2.out (fun _ hk => ⟨⟨hk.1.1.1, ⟨hk.1.1.2, hk.1.2⟩⟩, hk.2⟩)) hg hat)
                  have n1_ := Aside0.mk (Kd.R_after (ok := (fun k_ => (w.heap.size ≤ k_) ∧ some k_ ≠ (.slice Ao71 y196.length co71 : Value).ownBlock)) (by (with_reducible repeat (first | apply Kd.R_alloc | apply Kd.R_drewN | apply Kd.R_drew)); exact HO_10.out) hg hat)
                  have n2_ := Aside0.mk (Kd.R_after (ok := (fun k_ => (w.heap.size ≤ k_) ∧ some k_ ≠ (.slice Ao67 t182.length co67 : Value).ownBlock)) (by (with_reducible repeat (first | apply Kd.R_alloc | apply Kd.R_drewN | apply Kd.R_drew)); exact Kd.R_mono HO198.out (fun _ hk => ⟨⟨hk.1.1.1, hk.1.2⟩, hk.2⟩)) hg hat)
                  have n3_ := Aside0.mk (Kd.V_afterv (ok := (fun k_ => (P2_ k_ ∨ w.heap.size ≤ k_) ∧ some k_ ≠ (.slice Ao71 y196.length co71 : Value).ownBlock)) (by (with_reducible repeat (first | apply Kd.V_alloc | apply Kd.V_drewN | apply Kd.V_drew)); exact HO203.out) hg hat)
                  have n4_ := Aside0.mk (Kd.V_afterv (ok := (fun k_ => (P2_ k_ ∨ w.heap.size ≤ k_) ∧ some k_ ≠ (.slice Ao67 t182.length co67 : Value).ownBlock)) (by (with_reducible repeat (first | apply Kd.V_alloc | apply Kd.V_drewN | apply Kd.V_drew)); exact Kd.V_mono HO214.out (fun _ hk => ⟨⟨hk.1.1.1, hk.1.2⟩, hk.2⟩)) hg hat)
                  have n5_ := Aside0.mk (hb)
                  have n6_ := Aside0.mk (ho)
                  clear HO_2
                  clear HO_10
                  clear HO198
                  clear HO203
                  clear HO214
                  clear HB
                  clear HO206
                  have HO_2 := n0_
                  have HO_10 := n1_
                  have HO198 := n2_
                  have HO203 := n3_
                  have HO214 := n4_
                  have HB := n5_
                  have HO209 := n6_
                  clear n0_ n1_ n2_ n3_ n4_ n5_ n6_
                  clear ho hb hg hat
                  refine hK.out _ _ trivial (fun hHeld => ?_)
                  clear hK K
                  refine norm_ (a' := ?_) ?_ ?_
                  rotate_left
                  ·show Act.put _ (some 96) _ = _
                   simp only [Act.put,q1,q2,q3,i64_w,i32_w]
                   rfl
                  refine two_ (i := 20) (j := 21) (Ni := some 103) (Nj := some 104) #[I,I,I,I,I,I,I,I,I,I,I,I,I,I,I,I,I,I,I,I,I,O,O,O,O,I] #[I,I,I,I,I,I,I,I,I,I,I,I,I,I,I,I,I,I,I,I,O,I,O,O,O,I] rfl rfl rfl rfl (two_of HT_.out (by kernel_rfl)) (by decide) (by decide) (fun K hK => ?_) (fun K hK => ?_)
                  ·skip
                   refine Kd.R_append_rows_step (Kd.int .u8) (w0 := w) w.heap.size (by rfl) (.const (.slice none 0 0)) (.tmp 102) 23 5 (.int .u8 0) 1 rfl Try.underlying23 info5 rfl (by decide) (by omega) (.slice none 0 0) ([] : List Int) y210 _ _ _ (fun k_ => (w.heap.size ≤ k_) ∧ some k_ ≠ (.slice Ao67 t182.length co67 : Value).ownBlock ∧ some k_ ≠ (.slice Ao71 y196.length co71 : Value).ownBlock ∧ some k_ ≠ (v208 : Value).ownBlock) (fun _ => False) rfl rfl ?aO ?aR (fun _ _ h => h) (fun _ h => h.elim) ?aF ?aB ?aS ?aL ?_
                   (case aR => repeat (first | exact (Kd.V_reads' HO214.out).2.2 | (with_reducible refine Kd.C_alloc ?_ _) | (with_reducible refine Kd.C_drewN ?_ _) | (with_reducible refine Kd.C_drew ?_)))
                   (case aB => exact (by repeat (first | (with_reducible first | exact HB.out | apply below_alloc | apply pw_below_drewN | apply below_drew1) | exact HB.out)))
                   (case aF => exact (fun k_ hk => ⟨(Nat.le_trans (below_size (by repeat (first | (with_reducible first | exact HB.out | apply below_alloc | apply pw_below_drewN | apply below_drew1) | exact HB.out))) hk), Kd.fresh' (Kd.R_lt (by (with_reducible repeat (first | apply Kd.R_alloc | apply Kd.R_drewN | apply Kd.R_drew)); exact HO_10.out)) k_ hk, Kd.fresh' (Kd.R_lt (by (with_reducible repeat (first | apply Kd.R_alloc | apply Kd.R_drewN | apply Kd.R_drew)); exact HO198.out)) k_ hk, Kd.fresh' (Kd.R_lt (by (with_reducible repeat (first | apply Kd.R_alloc | apply Kd.R_drewN | apply Kd.R_drew)); exact HO209.out)) k_ hk⟩))
                   (case aO => exact ((Kd.R_nil _ _ _ _ (fun k_ => (w.heap.size ≤ k_) ∧ some k_ ≠ (.slice Ao67 t182.length co67 : Value).ownBlock ∧ some k_ ≠ (.slice Ao71 y196.length co71 : Value).ownBlock ∧ some k_ ≠ (v208 : Value).ownBlock))))
                   (case aS => exact (below_size (by repeat (first | (with_reducible first | exact HB.out | apply below_alloc | apply pw_below_drewN | apply below_drew1) | exact HB.out))))
                   (case aL => have := LMc63.out; omega)
                   intro v216 w74 ho hb hg hat
                   rw [← Ny215.out] at ho
                   have n0_ := Aside0.mk (Kd.V_afterv (Kd.V_apart_nil (by (with_reducible repeat (first | apply Kd.V_alloc | apply Kd.V_drewN | apply Kd.V_drew)); exact HO_2.out)) hg hat)
                   have n1_ := Aside0.mk (Kd.R_after (Kd.R_apart_nil (by (with_reducible repeat (first | apply Kd.R_alloc | apply Kd.R_drewN | apply Kd.R_drew)); exact HO_10.out)) hg hat)
                   have n2_ := Aside0.mk (Kd.R_after (Kd.R_apart_nil (by (with_reducible repeat (first | apply Kd.R_alloc | apply Kd.R_drewN | apply Kd.R_drew)); exact HO198.out)) hg hat)
                   have n3_ := Aside0.mk (Kd.V_afterv (Kd.V_apart_nil (by (with_reducible repeat (first | apply Kd.V_alloc | apply Kd.V_drewN | apply Kd.V_drew)); exact HO203.out)) hg hat)
                   have n4_ := Aside0.mk (Kd.V_afterv (Kd.V_apart_nil (by (with_reducible repeat (first | apply Kd.V_alloc | apply Kd.V_drewN | apply Kd.V_drew)); exact HO214.out)) hg hat)
                   have n5_ := Aside0.mk (Kd.R_after (Kd.R_apart_nil (by (with_reducible repeat (first | apply Kd.R_alloc | apply Kd.R_drewN | apply Kd.R_drew)); exact HO209.out)) hg hat)
                   have n6_ := Aside0.mk (hb)
                   have n7_ := Aside0.mk (ho)
                   clear HO_2
                   clear HO_10
                   clear HO198
                   clear HO203
                   clear HO214
                   clear HO209
                   clear HB
                   have HO_2 := n0_
                   have HO_10 := n1_
                   have HO198 := n2_
                   have HO203 := n3_
                   have HO214 := n4_
                   have HO209 := n5_
                   have HB := n6_
                   have HO217 := n7_
                   clear n0_ n1_ n2_ n3_ n4_ n5_ n6_ n7_
                   clear ho hb hg hat
                   refine hK.out _ _ trivial (fun hHeld => ?_)
                   clear hK K
                   refine norm_ (a' := ?_) ?_ ?_
                   rotate_left
                   ·show Act.put _ (some 103) _ = _
                    simp only [Act.put,q1,q2,q3,i64_w,i32_w]
                    rfl
                   refine one_ (i := 21) (N := some 104) #[I,I,I,I,I,I,I,I,I,I,I,I,I,I,I,I,I,I,I,I,I,I,O,O,O,I] rfl rfl (one_of HT_.out (by kernel_rfl)) (by decide) (fun K hK => ?_)
                   refine Kd.R_lit_step (Kd.int .u8) _ 5 ?hg (N := 104) ?hd (xs := ([0] : List Int)) (inner := [.int .u8 0]) (ok := fun _ => True) (okp := fun _ => True) ?hr ?hp (fun _ hk => hk) trivial (Below.refl _ _) (Nat.le_refl _) (by simp) ?_; (case hd => rfl); (case hg => rfl); (case hr => first | (go_simp; done) | (go_simp; rfl)); (case hp => exact (Reps.one (show Kd.M (Kd.int .u8) _ _ _ 0 [.int .u8 0] from rfl) (Reps.none _ _)))
                   intro v219 w75 ho76 hb hg_ hnew_
                   clear hg_ hnew_
                   (first | rw [← Ny218.out] at ho76 | (simp only [Int.reduceToNat] at ho76; rw [← Ny218.out] at ho76))
                   have n0_ := Aside0.mk (Kd.V_elder' (by (with_reducible repeat (first | apply Kd.V_alloc | apply Kd.V_drewN | apply Kd.V_drew)); exact HO_2.out) (Kd.R_base ho76) hb)
                   have n1_ := Aside0.mk (Kd.R_elder' (by (with_reducible repeat (first | apply Kd.R_alloc | apply Kd.R_drewN | apply Kd.R_drew)); exact HO_10.out) (Kd.R_base ho76) hb)
                   have n2_ := Aside0.mk (Kd.R_elder' (by (with_reducible repeat (first | apply Kd.R_alloc | apply Kd.R_drewN | apply Kd.R_drew)); exact HO198.out) (Kd.R_base ho76) hb)
                   have n3_ := Aside0.mk (Kd.V_elder' (by (with_reducible repeat (first | apply Kd.V_alloc | apply Kd.V_drewN | apply Kd.V_drew)); exact HO203.out) (Kd.R_base ho76) hb)
                   have n4_ := Aside0.mk (Kd.V_elder' (by (with_reducible repeat (first | apply Kd.V_alloc | apply Kd.V_drewN | apply Kd.V_drew)); exact HO214.out) (Kd.R_base ho76) hb)
                   have n5_ := Aside0.mk (Kd.R_elder' (by (with_reducible repeat (first | apply Kd.R_alloc | apply Kd.R_drewN | apply Kd.R_drew)); exact HO209.out) (Kd.R_base ho76) hb)
                   have n6_ := Aside0.mk (Kd.R_elder' (by (with_reducible repeat (first | apply Kd.R_alloc | apply Kd.R_drewN | apply Kd.R_drew)); exact HO217.out) (Kd.R_base ho76) hb)
                   have n7_ := Aside0.mk (Kd.R_lower (Kd.R_new' (Kd.R_new' (Kd.R_new' (Kd.R_new' (Kd.R_newM (M := fun k_ => (w.heap.size ≤ k_)) ho76 (below_size (by repeat (first | (with_reducible first | exact HB.out | apply below_alloc | apply pw_below_drewN | apply below_drew1) | exact HB.out))) (fun k_ h_ => h_)) (Kd.R_lt (by (with_reducible repeat (first | apply Kd.R_alloc | apply Kd.R_drewN | apply Kd.R_drew)); exact HO_10.out))) (Kd.R_lt (by (with_reducible repeat (first | apply Kd.R_alloc | apply Kd.R_drewN | apply Kd.R_drew)); exact HO198.out))) (Kd.R_lt (by (with_reducible repeat (first | apply Kd.R_alloc | apply Kd.R_drewN | apply Kd.R_drew)); exact HO209.out))) (Kd.R_lt (by (with_reducible repeat (first | apply Kd.R_alloc | apply Kd.R_drewN | apply Kd.R_drew)); exact HO217.out))) (below_size (by repeat (first | (with_reducible first | exact HB.out | apply below_alloc | apply pw_below_drewN | apply below_drew1) | exact HB.out))))
                   have n8_ := Aside0.mk (below_step (by repeat (first | (with_reducible first | exact HB.out | apply below_alloc | apply pw_below_drewN | apply below_drew1) | exact HB.out)) hb)
                   clear HO_2
                   clear HO_10
                   clear HO198
                   clear HO203
                   clear HO214
                   clear HO209
                   clear HO217
                   clear HB
                   have HO_2 := n0_
                   have HO_10 := n1_
                   have HO198 := n2_
                   have HO203 := n3_
                   have HO214 := n4_
                   have HO209 := n5_
                   have HO217 := n6_
                   have HO220 := n7_
                   have HB := n8_
                   clear n0_ n1_ n2_ n3_ n4_ n5_ n6_ n7_ n8_
                   clear hb ho76
                   refine hK.out _ _ trivial (fun hHeld => ?_)
                   clear hK K
                   refine norm_ (a' := ?_) ?_ ?_
                   rotate_left
                   ·show Act.put _ (some 104) _ = _
                    simp only [Act.put,q1,q2,q3,i64_w,i32_w]
                    rfl
                   exact norm_ (by simp only [putAll, Act.put, q1, q2, q3]) (hCont (v205, v208, v216, v219) _ ⟨(by (with_reducible repeat (first | apply Kd.R_alloc | apply Kd.R_drewN | apply Kd.R_drew)); exact Kd.R_mono HO198.out (fun _ hk => ⟨hk.1.1.1.1, ⟨hk.1.1.2, ⟨hk.1.2, ⟨hk.2, hk.1.1.1.2⟩⟩⟩⟩)), (by (with_reducible repeat (first | apply Kd.V_alloc | apply Kd.V_drewN | apply Kd.V_drew)); exact Kd.V_mono HO203.out (fun _ hk => ⟨hk.1.1.1.1, ⟨hk.1.1.1.2, ⟨hk.1.1.2, ⟨hk.1.2, hk.2⟩⟩⟩⟩)), (by (with_reducible repeat (first | apply Kd.R_alloc | apply Kd.R_drewN | apply Kd.R_drew)); exact Kd.R_mono HO209.out (fun _ hk => ⟨hk.1.1.1, ⟨hk.1.1.2.2, ⟨hk.1.2, ⟨hk.2, hk.1.1.2.1⟩⟩⟩⟩)), (by (with_reducible repeat (first | apply Kd.V_alloc | apply Kd.V_drewN | apply Kd.V_drew)); exact Kd.V_mono HO214.out (fun _ hk => ⟨hk.1.1.1.1, ⟨hk.1.1.2, ⟨hk.1.2, ⟨hk.2, hk.1.1.1.2⟩⟩⟩⟩)), (by (with_reducible repeat (first | apply Kd.R_alloc | apply Kd.R_drewN | apply Kd.R_drew)); exact Kd.R_mono HO217.out (fun _ hk => ⟨hk.1.1, ⟨hk.1.2.2.1, ⟨hk.1.2.2.2, ⟨hk.2, hk.1.2.1⟩⟩⟩⟩)), (by (with_reducible repeat (first | apply Kd.R_alloc | apply Kd.R_drewN | apply Kd.R_drew)); exact Kd.R_mono HO220.out (fun _ hk => ⟨hk.1.1.1.1.1, ⟨hk.1.1.2, ⟨hk.1.2, ⟨hk.2, hk.1.1.1.2⟩⟩⟩⟩)), (by (with_reducible repeat (first | apply Kd.R_alloc | apply Kd.R_drewN | apply Kd.R_drew)); exact Kd.R_mono HO_10.out (fun _ hk => ⟨hk.1.1.1.1, ⟨hk.1.1.1.2, ⟨hk.1.1.2, ⟨hk.1.2, hk.2⟩⟩⟩⟩)), (by (with_reducible repeat (first | apply Kd.V_alloc | apply Kd.V_drewN | apply Kd.V_drew)); exact Kd.V_mono HO_2.out (fun _ hk => ⟨hk.1.1.1.1, ⟨hk.1.1.1.2.2, ⟨hk.1.1.2, ⟨hk.1.2, ⟨hk.2, hk.1.1.1.2.1⟩⟩⟩⟩⟩)), (by repeat (first | (with_reducible first | exact HB.out | apply below_alloc | apply pw_below_drewN | apply below_drew1) | exact HB.out))⟩)
                  ·skip
                   refine Kd.R_lit_step (Kd.int .u8) _ 5 ?hg (N := 104) ?hd (xs := ([0] : List Int)) (inner := [.int .u8 0]) (ok := fun _ => True) (okp := fun _ => True) ?hr ?hp (fun _ hk => hk) trivial (Below.refl _ _) (Nat.le_refl _) (by simp) ?_; (case hd => rfl); (case hg => rfl); (case hr => first | (go_simp; done) | (go_simp; rfl)); (case hp => exact (Reps.one (show Kd.M (Kd.int .u8) _ _ _ 0 [.int .u8 0] from rfl) (Reps.none _ _)))
                   intro v219 w74 ho75 hb hg_ hnew_
                   clear hg_ hnew_
                   (first | rw [← Ny218.out] at ho75 | (simp only [Int.reduceToNat] at ho75; rw [← Ny218.out] at ho75))
                   have n0_ := Aside0.mk (Kd.V_elder' (by (with_reducible repeat (first | apply Kd.V_alloc | apply Kd.V_drewN | apply Kd.V_drew)); exact HO_2.out) (Kd.R_base ho75) hb)
                   have n1_ := Aside0.mk (Kd.R_elder' (by (with_reducible repeat (first | apply Kd.R_alloc | apply Kd.R_drewN | apply Kd.R_drew)); exact HO_10.out) (Kd.R_base ho75) hb)
                   have n2_ := Aside0.mk (Kd.R_elder' (by (with_reducible repeat (first | apply Kd.R_alloc | apply Kd.R_drewN | apply Kd.R_drew)); exact HO198.out) (Kd.R_base ho75) hb)
                   have n3_ := Aside0.mk (Kd.V_elder' (by (with_reducible repeat (first | apply Kd.V_alloc | apply Kd.V_drewN | apply Kd.V_drew)); exact HO203.out) (Kd.R_base ho75) hb)
                   have n4_ := Aside0.mk (Kd.V_elder' (by (with_reducible repeat (first | apply Kd.V_alloc | apply Kd.V_drewN | apply Kd.V_drew)); exact HO214.out) (Kd.R_base ho75) hb)
                   have n5_ := Aside0.mk (Kd.R_elder' (by (with_reducible repeat (first | apply Kd.R_alloc | apply Kd.R_drewN | apply Kd.R_drew)); exact HO209.out) (Kd.R_base ho75) hb)
                   have n6_ := Aside0.mk (Kd.R_lower (Kd.R_new' (Kd.R_new' (Kd.R_new' (Kd.R_newM (M := fun k_ => (w.heap.size ≤ k_)) ho75 (below_size (by repeat (first | (with_reducible first | exact HB.out | apply below_alloc | apply pw_below_drewN | apply below_drew1) | exact HB.out))) (fun k_ h_ => h_)) (Kd.R_lt (by (with_reducible repeat (first | apply Kd.R_alloc | apply Kd.R_drewN | apply Kd.R_drew)); exact HO_10.out))) (Kd.R_lt (by (with_reducible repeat (first | apply Kd.R_alloc | apply Kd.R_drewN | apply Kd.R_drew)); exact HO198.out))) (Kd.R_lt (by (with_reducible repeat (first | apply Kd.R_alloc | apply Kd.R_drewN | apply Kd.R_drew)); exact HO209.out))) (below_size (by repeat (first | (with_reducible first | exact HB.out | apply below_alloc | apply pw_below_drewN | apply below_drew1) | exact HB.out))))
                   have n7_ := Aside0.mk (below_step (by repeat (first | (with_reducible first | exact HB.out | apply below_alloc | apply pw_below_drewN | apply below_drew1) | exact HB.out)) hb)
                   clear HO_2
                   clear HO_10
                   clear HO198
                   clear HO203
                   clear HO214
                   clear HO209
                   clear HB
                   have HO_2 := n0_
                   have HO_10 := n1_
                   have HO198 := n2_
                   have HO203 := n3_
                   have HO214 := n4_
                   have HO209 := n5_
                   have HO220 := n6_
                   have HB := n7_
                   clear n0_ n1_ n2_ n3_ n4_ n5_ n6_ n7_
                   clear hb ho75
                   refine hK.out _ _ trivial (fun hHeld => ?_)
                   clear hK K
                   refine norm_ (a' := ?_) ?_ ?_
                   rotate_left
                   ·show Act.put _ (some 104) _ = _
                    simp only [Act.put,q1,q2,q3,i64_w,i32_w]
                    rfl
                   refine one_ (i := 20) (N := some 103) #[I,I,I,I,I,I,I,I,I,I,I,I,I,I,I,I,I,I,I,I,I,I,O,O,O,I] rfl rfl (one_of HT_.out (by kernel_rfl)) (by decide) (fun K hK => ?_)
                   refine Kd.R_append_rows_step (Kd.int .u8) (w0 := w) w.heap.size (by rfl) (.const (.slice none 0 0)) (.tmp 102) 23 5 (.int .u8 0) 1 rfl Try.underlying23 info5 rfl (by decide) (by omega) (.slice none 0 0) ([] : List Int) y210 _ _ _ (fun k_ => (w.heap.size ≤ k_) ∧ some k_ ≠ (.slice Ao67 t182.length co67 : Value).ownBlock ∧ some k_ ≠ (.slice Ao71 y196.length co71 : Value).ownBlock ∧ some k_ ≠ (v208 : Value).ownBlock ∧ some k_ ≠ (v219 : Value).ownBlock) (fun _ => False) rfl rfl ?aO ?aR (fun _ _ h => h) (fun _ h => h.elim) ?aF ?aB ?aS ?aL ?_
                   (case aR => repeat (first | exact (Kd.V_reads' HO214.out).2.2 | (with_reducible refine Kd.C_alloc ?_ _) | (with_reducible refine Kd.C_drewN ?_ _) | (with_reducible refine Kd.C_drew ?_)))
                   (case aB => exact (by repeat (first | (with_reducible first | exact HB.out | apply below_alloc | apply pw_below_drewN | apply below_drew1) | exact HB.out)))
                   (case aF => exact (fun k_ hk => ⟨(Nat.le_trans (below_size (by repeat (first | (with_reducible first | exact HB.out | apply below_alloc | apply pw_below_drewN | apply below_drew1) | exact HB.out))) hk), Kd.fresh' (Kd.R_lt (by (with_reducible repeat (first | apply Kd.R_alloc | apply Kd.R_drewN | apply Kd.R_drew)); exact HO_10.out)) k_ hk, Kd.fresh' (Kd.R_lt (by (with_reducible repeat (first | apply Kd.R_alloc | apply Kd.R_drewN | apply Kd.R_drew)); exact HO198.out)) k_ hk, Kd.fresh' (Kd.R_lt (by (with_reducible repeat (first | apply Kd.R_alloc | apply Kd.R_drewN | apply Kd.R_drew)); exact HO209.out)) k_ hk, Kd.fresh' (Kd.R_lt (by (with_reducible repeat (first | apply Kd.R_alloc | apply Kd.R_drewN | apply Kd.R_drew)); exact HO220.out)) k_ hk⟩))
                   (case aO => exact ((Kd.R_nil _ _ _ _ (fun k_ => (w.heap.size ≤ k_) ∧ some k_ ≠ (.slice Ao67 t182.length co67 : Value).ownBlock ∧ some k_ ≠ (.slice Ao71 y196.length co71 : Value).ownBlock ∧ some k_ ≠ (v208 : Value).ownBlock ∧ some k_ ≠ (v219 : Value).ownBlock))))
                   (case aS => exact (below_size (by repeat (first | (with_reducible first | exact HB.out | apply below_alloc | apply pw_below_drewN | apply below_drew1) | exact HB.out))))
                   (case aL => have := LMc63.out; omega)
                   intro v216 w76 ho hb hg hat
                   rw [← Ny215.out] at ho
                   have n0_ := Aside0.mk (Kd.V_afterv (Kd.V_apart_nil (by (with_reducible repeat (first | apply Kd.V_alloc | apply Kd.V_drewN | apply Kd.V_drew)); exact HO_2.out)) hg hat)
                   have n1_ := Aside0.mk (Kd.R_after (Kd.R_apart_nil (by (with_reducible repeat (first | apply Kd.R_alloc | apply Kd.R_drewN | apply Kd.R_drew)); exact HO_10.out)) hg hat)
                   have n2_ := Aside0.mk (Kd.R_after (Kd.R_apart_nil (by (with_reducible repeat (first | apply Kd.R_alloc | apply Kd.R_drewN | apply Kd.R_drew)); exact HO198.out)) hg hat)
                   have n3_ := Aside0.mk (Kd.V_afterv (Kd.V_apart_nil (by (with_reducible repeat (first | apply Kd.V_alloc | apply Kd.V_drewN | apply Kd.V_drew)); exact HO203.out)) hg hat)
                   have n4_ := Aside0.mk (Kd.V_afterv (Kd.V_apart_nil (by (with_reducible repeat (first | apply Kd.V_alloc | apply Kd.V_drewN | apply Kd.V_drew)); exact HO214.out)) hg hat)
                   have n5_ := Aside0.mk (Kd.R_after (Kd.R_apart_nil (by (with_reducible repeat (first | apply Kd.R_alloc | apply Kd.R_drewN | apply Kd.R_drew)); exact HO209.out)) hg hat)
                   have n6_ := Aside0.mk (Kd.R_after (Kd.R_apart_nil (by (with_reducible repeat (first | apply Kd.R_alloc | apply Kd.R_drewN | apply Kd.R_drew)); exact HO220.out)) hg hat)
                   have n7_ := Aside0.mk (hb)
                   have n8_ := Aside0.mk (ho)
                   clear HO_2
                   clear HO_10
                   clear HO198
                   clear HO203
                   clear HO214
                   clear HO209
                   clear HO220
                   clear HB
                   have HO_2 := n0_
                   have HO_10 := n1_
                   have HO198 := n2_
                   have HO203 := n3_
                   have HO214 := n4_
                   have HO209 := n5_
                   have HO220 := n6_
                   have HB := n7_
                   have HO217 := n8_
                   clear n0_ n1_ n2_ n3_ n4_ n5_ n6_ n7_ n8_
                   clear ho hb hg hat
                   refine hK.out _ _ trivial (fun hHeld => ?_)
                   clear hK K
                   refine norm_ (a' := ?_) ?_ ?_
                   rotate_left
                   ·show Act.put _ (some 103) _ = _
                    simp only [Act.put,q1,q2,q3,i64_w,i32_w]
                    rfl
                   exact norm_ (by simp only [putAll, Act.put, q1, q2, q3]) (hCont (v205, v208, v216, v219) _ ⟨(by (with_reducible repeat (first | apply Kd.R_alloc | apply Kd.R_drewN | apply Kd.R_drew)); exact Kd.R_mono HO198.out (fun _ hk => ⟨hk.1.1.1.1, ⟨hk.1.1.2, ⟨hk.2, ⟨hk.1.2, hk.1.1.1.2⟩⟩⟩⟩)), (by (with_reducible repeat (first | apply Kd.V_alloc | apply Kd.V_drewN | apply Kd.V_drew)); exact Kd.V_mono HO203.out (fun _ hk => ⟨hk.1.1.1.1, ⟨hk.1.1.1.2, ⟨hk.1.1.2, ⟨hk.2, hk.1.2⟩⟩⟩⟩)), (by (with_reducible repeat (first | apply Kd.R_alloc | apply Kd.R_drewN | apply Kd.R_drew)); exact Kd.R_mono HO209.out (fun _ hk => ⟨hk.1.1.1, ⟨hk.1.1.2.2, ⟨hk.2, ⟨hk.1.2, hk.1.1.2.1⟩⟩⟩⟩)), (by (with_reducible repeat (first | apply Kd.V_alloc | apply Kd.V_drewN | apply Kd.V_drew)); exact Kd.V_mono HO214.out (fun _ hk => ⟨hk.1.1.1.1, ⟨hk.1.1.2, ⟨hk.2, ⟨hk.1.2, hk.1.1.1.2⟩⟩⟩⟩)), (by (with_reducible repeat (first | apply Kd.R_alloc | apply Kd.R_drewN | apply Kd.R_drew)); exact Kd.R_mono HO217.out (fun _ hk => ⟨hk.1, ⟨hk.2.2.1, ⟨hk.2.2.2.1, ⟨hk.2.2.2.2, hk.2.1⟩⟩⟩⟩)), (by (with_reducible repeat (first | apply Kd.R_alloc | apply Kd.R_drewN | apply Kd.R_drew)); exact Kd.R_mono HO220.out (fun _ hk => ⟨hk.1.1.1.1.1, ⟨hk.1.1.2, ⟨hk.1.2, ⟨hk.2, hk.1.1.1.2⟩⟩⟩⟩)), (by (with_reducible repeat (first | apply Kd.R_alloc | apply Kd.R_drewN | apply Kd.R_drew)); exact Kd.R_mono HO_10.out (fun _ hk => ⟨hk.1.1.1.1, ⟨hk.1.1.1.2, ⟨hk.1.1.2, ⟨hk.2, hk.1.2⟩⟩⟩⟩)), (by (with_reducible repeat (first | apply Kd.V_alloc | apply Kd.V_drewN | apply Kd.V_drew)); exact Kd.V_mono HO_2.out (fun _ hk => ⟨hk.1.1.1.1, ⟨hk.1.1.1.2.2, ⟨hk.1.1.2, ⟨hk.2, ⟨hk.1.2, hk.1.1.1.2.1⟩⟩⟩⟩⟩)), (by repeat (first | (with_reducible first | exact HB.out | apply below_alloc | apply pw_below_drewN | apply below_drew1) | exact HB.out))⟩)
                 ·skip
                  refine Kd.R_lit_step (Kd.int .u8) _ 5 ?hg (N := 104) ?hd (xs := ([0] : List Int)) (inner := [.int .u8 0]) (ok := fun _ => True) (okp := fun _ => True) ?hr ?hp (fun _ hk => hk) trivial (Below.refl _ _) (Nat.le_refl _) (by simp) ?_; (case hd => rfl); (case hg => rfl); (case hr => first | (go_simp; done) | (go_simp; rfl)); (case hp => exact (Reps.one (show Kd.M (Kd.int .u8) _ _ _ 0 [.int .u8 0] from rfl) (Reps.none _ _)))
                  intro v219 w73 ho74 hb hg_ hnew_
                  clear hg_ hnew_
                  (first | rw [← Ny218.out] at ho74 | (simp only [Int.reduceToNat] at ho74; rw [← Ny218.out] at ho74))
                  have n0_ := Aside0.mk (Kd.V_elder' (by (with_reducible repeat (first | apply Kd.V_alloc | apply Kd.V_drewN | apply Kd.V_drew)); exact HO_2.out) (Kd.R_base ho74) hb)
                  have n1_ := Aside0.mk (Kd.R_elder' (by (with_reducible repeat (first | apply Kd.R_alloc | apply Kd.R_drewN | apply Kd.R_drew)); exact HO_10.out) (Kd.R_base ho74) hb)
                  have n2_ := Aside0.mk (Kd.R_elder' (by (with_reducible repeat (first | apply Kd.R_alloc | apply Kd.R_drewN | apply Kd.R_drew)); exact HO198.out) (Kd.R_base ho74) hb)
                  have n3_ := Aside0.mk (Kd.V_elder' (by (with_reducible repeat (first | apply Kd.V_alloc | apply Kd.V_drewN | apply Kd.V_drew)); exact HO203.out) (Kd.R_base ho74) hb)
                  have n4_ := Aside0.mk (Kd.V_elder' (by (with_reducible repeat (first | apply Kd.V_alloc | apply Kd.V_drewN | apply Kd.V_drew)); exact HO214.out) (Kd.R_base ho74) hb)
                  have n5_ := Aside0.mk (Kd.R_elder' (by (with_reducible repeat (first | apply Kd.R_alloc | apply Kd.R_drewN | apply Kd.R_drew)); exact HO206.out) (Kd.R_base ho74) hb)
                  have n6_ := Aside0.mk (Kd.R_lower (Kd.R_new' (Kd.R_new' (Kd.R_new' (Kd.R_newM (M := fun k_ => (w.heap.size ≤ k_)) ho74 (below_size (by repeat (first | (with_reducible first | exact HB.out | apply below_alloc | apply pw_below_drewN | apply below_drew1) | exact HB.out))) (fun k_ h_ => h_)) (Kd.R_lt (by (with_reducible repeat (first | apply Kd.R_alloc | apply Kd.R_drewN | apply Kd.R_drew)); exact HO_10.out))) (Kd.R_lt (by (with_reducible repeat (first | apply Kd.R_alloc | apply Kd.R_drewN | apply Kd.R_drew)); exact HO198.out))) (Kd.R_lt (by (with_reducible repeat (first | apply Kd.R_alloc | apply Kd.R_drewN | apply Kd.R_drew)); exact HO206.out))) (below_size (by repeat (first | (with_reducible first | exact HB.out | apply below_alloc | apply pw_below_drewN | apply below_drew1) | exact HB.out))))
                  have n7_ := Aside0.mk (below_step (by repeat (first | (with_reducible first | exact HB.out | apply below_alloc | apply pw_below_drewN | apply below_drew1) | exact HB.out)) hb)
                  clear HO_2
                  clear HO_10
                  clear HO198
                  clear HO203
                  clear HO214
                  clear HO206
                  clear HB
                  have HO_2 := n0_
                  have HO_10 := n1_
                  have HO198 := n2_
                  have HO203 := n3_
                  have HO214 := n4_
                  have HO206 := n5_
                  have HO220 := n6_
                  have HB := n7_
                  clear n0_ n1_ n2_ n3_ n4_ n5_ n6_ n7_
                  clear hb ho74
                  refine hK.out _ _ trivial (fun hHeld => ?_)
                  clear hK K
                  refine norm_ (a' := ?_) ?_ ?_
                  rotate_left
                  ·show Act.put _ (some 104) _ = _
                   simp only [Act.put,q1,q2,q3,i64_w,i32_w]
                   rfl
                  refine one_ (i := 13) (N := some 96) #[I,I,I,I,I,I,I,I,I,I,I,I,I,I,I,I,I,I,I,I,O,I,O,O,O,I] rfl rfl (one_of HT_.out (by kernel_rfl)) (by decide) (fun K hK => ?_)
                  refine Kd.R_append_rows_step (Kd.int .u8) (w0 := w) w.heap.size (by rfl) (.tmp 94) (.tmp 95) 23 5 (.int .u8 0) 1 rfl Try.underlying23 info5 rfl (by decide) (by omega) v205 y204 l2 _ _ _ (fun k_ => (w.heap.size ≤ k_) ∧ some k_ ≠ (.slice Ao67 t182.length co67 : Value).ownBlock ∧ some k_ ≠ (.slice Ao71 y196.length co71 : Value).ownBlock ∧ some k_ ≠ (v219 : Value).ownBlock) (fun _ => False) rfl rfl ?aO ?aR (fun _ _ h => h) (fun _ h => h.elim) ?aF ?aB ?aS ?aL ?_
                  (case aR => repeat (first | exact (Kd.V_reads' HO_2.out).2.2 | (with_reducible refine Kd.C_alloc ?_ _) | (with_reducible refine Kd.C_drewN ?_ _) | (with_reducible refine Kd.C_drew ?_)))
                  (case aB => exact (by repeat (first | (with_reducible first | exact HB.out | apply below_alloc | apply pw_below_drewN | apply below_drew1) | exact HB.out)))
                  (case aF => exact (fun k_ hk => ⟨(Nat.le_trans (below_size (by repeat (first | (with_reducible first | exact HB.out | apply below_alloc | apply pw_below_drewN | apply below_drew1) | exact HB.out))) hk), Kd.fresh' (Kd.R_lt (by (with_reducible repeat (first | apply Kd.R_alloc | apply Kd.R_drewN | apply Kd.R_drew)); exact HO_10.out)) k_ hk, Kd.fresh' (Kd.R_lt (by (with_reducible repeat (first | apply Kd.R_alloc | apply Kd.R_drewN | apply Kd.R_drew)); exact HO198.out)) k_ hk, Kd.fresh' (Kd.R_lt (by (with_reducible repeat (first | apply Kd.R_alloc | apply Kd.R_drewN | apply Kd.R_drew)); exact HO220.out)) k_ hk⟩))
                  (case aO => exact (by (with_reducible repeat (first | apply Kd.R_alloc | apply Kd.R_drewN | apply Kd.R_drew)); exact Kd.R_mono HO206.out (fun _ hk => ⟨hk.1.1, ⟨hk.1.2.1, ⟨hk.1.2.2, hk.2⟩⟩⟩)))
                  (case aS => exact (below_size (by repeat (first | (with_reducible first | exact HB.out | apply below_alloc | apply pw_below_drewN | apply below_drew1) | exact HB.out))))
                  (case aL => have := LMc59.out; omega)
                  intro v208 w75 ho hb hg hat
                  rw [← Ny207.out] at ho
                  have n0_ := Aside0.mk (Kd.V_afterv (ok := (fun k_ => (P2_ k_ ∨ w.heap.size ≤ k_) ∧ some k_ ≠ (.slice Ao67 t182.length co67 : Value).ownBlock ∧ some k_ ≠ (.slice Ao71 y196.length co71 : Value).ownBlock ∧ some k_ ≠ (v219 : Value).ownBlock)) (by (with_reducible repeat (first | apply Kd.V_alloc | apply Kd.V_drewN | apply Kd.V_drew)); exact Kd.V_mono HO_2.out (fun _ hk => ⟨⟨hk.1.1.1.1, ⟨hk.1.1.1.2, ⟨hk.1.1.2, hk.2⟩⟩⟩, hk.1.2⟩)) hg hat)
                  have n1_ := Aside0.mk (Kd.R_after (ok := (fun k_ => (w.heap.size ≤ k_) ∧ some k_ ≠ (.slice Ao71 y196.length co71 : Value).ownBlock ∧ some k_ ≠ (v219 : Value).ownBlock)) (by (with_reducible repeat (first | apply Kd.R_alloc | apply Kd.R_drewN | apply Kd.R_drew)); exact Kd.R_mono HO_10.out (fun _ hk => ⟨⟨hk.1.1.1, ⟨hk.1.1.2, hk.2⟩⟩, hk.1.2⟩)) hg hat)
                  have n2_ := Aside0.mk (Kd.R_after (ok := (fun k_ => (w.heap.size ≤ k_) ∧ some k_ ≠ (.slice Ao67 t182.length co67 : Value).ownBlock ∧ some k_ ≠ (v219 : Value).ownBlock)) (by (with_reducible repeat (first | apply Kd.R_alloc | apply Kd.R_drewN | apply Kd.R_drew)); exact Kd.R_mono HO198.out (fun _ hk => ⟨⟨hk.1.1.1.1, ⟨hk.1.1.2, hk.2⟩⟩, hk.1.2⟩)) hg hat)
                  have n3_ := Aside0.mk (Kd.V_afterv (ok := (fun k_ => (P2_ k_ ∨ w.heap.size ≤ k_) ∧ some k_ ≠ (.slice Ao71 y196.length co71 : Value).ownBlock ∧ some k_ ≠ (v219 : Value).ownBlock)) (by (with_reducible repeat (first | apply Kd.V_alloc | apply Kd.V_drewN | apply Kd.V_drew)); exact Kd.V_mono HO203.out (fun _ hk => ⟨⟨hk.1.1.1, ⟨hk.1.1.2, hk.2⟩⟩, hk.1.2⟩)) hg hat)
                  have n4_ := Aside0.mk (Kd.V_afterv (ok := (fun k_ => (P2_ k_ ∨ w.heap.size ≤ k_) ∧ some k_ ≠ (.slice Ao67 t182.length co67 : Value).ownBlock ∧ some k_ ≠ (v219 : Value).ownBlock)) (by (with_reducible repeat (first | apply Kd.V_alloc | apply Kd.V_drewN | apply Kd.V_drew)); exact Kd.V_mono HO214.out (fun _ hk => ⟨⟨hk.1.1.1.1, ⟨hk.1.1.2, hk.2⟩⟩, hk.1.2⟩)) hg hat)
                  have n5_ := Aside0.mk (Kd.R_after (ok := (fun k_ => (w.heap.size ≤ k_) ∧ some k_ ≠ (.slice Ao67 t182.length co67 : Value).ownBlock ∧ some k_ ≠ (.slice Ao71 y196.length co71 : Value).ownBlock)) (by (with_reducible repeat (first | apply Kd.R_alloc | apply Kd.R_drewN | apply Kd.R_drew)); exact Kd.R_mono HO220.out (fun _ hk => ⟨⟨hk.1.1.1.1, ⟨hk.1.1.2, hk.1.2⟩⟩, hk.2⟩)) hg hat)
                  have n6_ := Aside0.mk (hb)
                  have n7_ := Aside0.mk (ho)
                  clear HO_2
                  clear HO_10
                  clear HO198
                  clear HO203
                  clear HO214
                  clear HO220
                  clear HB
                  clear HO206
                  have HO_2 := n0_
                  have HO_10 := n1_
                  have HO198 := n2_
                  have HO203 := n3_
                  have HO214 := n4_
                  have HO220 := n5_
                  have HB := n6_
                  have HO209 := n7_
                  clear n0_ n1_ n2_ n3_ n4_ n5_ n6_ n7_
                  clear ho hb hg hat
                  refine hK.out _ _ trivial (fun hHeld => ?_)
                  clear hK K
                  refine norm_ (a' := ?_) ?_ ?_
                  rotate_left
                  ·show Act.put _ (some 96) _ = _
                   simp only [Act.put,q1,q2,q3,i64_w,i32_w]
                   rfl
                  refine one_ (i := 20) (N := some 103) #[I,I,I,I,I,I,I,I,I,I,I,I,I,I,I,I,I,I,I,I,I,I,O,O,O,I] rfl rfl (one_of HT_.out (by kernel_rfl)) (by decide) (fun K hK => ?_)
                  refine Kd.R_append_rows_step (Kd.int .u8) (w0 := w) w.heap.size (by rfl) (.const (.slice none 0 0)) (.tmp 102) 23 5 (.int .u8 0) 1 rfl Try.underlying23 info5 rfl (by decide) (by omega) (.slice none 0 0) ([] : List Int) y210 _ _ _ (fun k_ => (w.heap.size ≤ k_) ∧ some k_ ≠ (.slice Ao67 t182.length co67 : Value).ownBlock ∧ some k_ ≠ (.slice Ao71 y196.length co71 : Value).ownBlock ∧ some k_ ≠ (v219 : Value).ownBlock ∧ some k_ ≠ (v208 : Value).ownBlock) (fun _ => False) rfl rfl ?aO ?aR (fun _ _ h => h) (fun _ h => h.elim) ?aF ?aB ?aS ?aL ?_
                  (case aR => repeat (first | exact (Kd.V_reads' HO214.out).2.2 | (with_reducible refine Kd.C_alloc ?_ _) | (with_reducible refine Kd.C_drewN ?_ _) | (with_reducible refine Kd.C_drew ?_)))
                  (case aB => exact (by repeat (first | (with_reducible first | exact HB.out | apply below_alloc | apply pw_below_drewN | apply below_drew1) | exact HB.out)))
                  (case aF => exact (fun k_ hk => ⟨(Nat.le_trans (below_size (by repeat (first | (with_reducible first | exact HB.out | apply below_alloc | apply pw_below_drewN | apply below_drew1) | exact HB.out))) hk), Kd.fresh' (Kd.R_lt (by (with_reducible repeat (first | apply Kd.R_alloc | apply Kd.R_drewN | apply Kd.R_drew)); exact HO_10.out)) k_ hk, Kd.fresh' (Kd.R_lt (by (with_reducible repeat (first | apply Kd.R_alloc | apply Kd.R_drewN | apply Kd.R_drew)); exact HO198.out)) k_ hk, Kd.fresh' (Kd.R_lt (by (with_reducible repeat (first | apply Kd.R_alloc | apply Kd.R_drewN | apply Kd.R_drew)); exact HO220.out)) k_ hk, Kd.fresh' (Kd.R_lt (by (with_reducible repeat (first | apply Kd.R_alloc | apply Kd.R_drewN | apply Kd.R_drew)); exact HO209.out)) k_ hk⟩))
                  (case aO => exact ((Kd.R_nil _ _ _ _ (fun k_ => (w.heap.size ≤ k_) ∧ some k_ ≠ (.slice Ao67 t182.length co67 : Value).ownBlock ∧ some k_ ≠ (.slice Ao71 y196.length co71 : Value).ownBlock ∧ some k_ ≠ (v219 : Value).ownBlock ∧ some k_ ≠ (v208 : Value).ownBlock))))
                  (case aS => exact (below_size (by repeat (first | (with_reducible first | exact HB.out | apply below_alloc | apply pw_below_drewN | apply below_drew1) | exact HB.out))))
                  (case aL => have := LMc63.out; omega)
                  intro v216 w76 ho hb hg hat
                  rw [← Ny215.out] at ho
                  have n0_ := Aside0.mk (Kd.V_afterv (Kd.V_apart_nil (by (with_reducible repeat (first | apply Kd.V_alloc | apply Kd.V_drewN | apply Kd.V_drew)); exact HO_2.out)) hg hat)
                  have n1_ := Aside0.mk (Kd.R_after (Kd.R_apart_nil (by (with_reducible repeat (first | apply Kd.R_alloc | apply Kd.R_drewN | apply Kd.R_drew)); exact HO_10.out)) hg hat)
                  have n2_ := Aside0.mk (Kd.R_after (Kd.R_apart_nil (by (with_reducible repeat (first | apply Kd.R_alloc | apply Kd.R_drewN | apply Kd.R_drew)); exact HO198.out)) hg hat)
                  have n3_ := Aside0.mk (Kd.V_afterv (Kd.V_apart_nil (by (with_reducible repeat (first | apply Kd.V_alloc | apply Kd.V_drewN | apply Kd.V_drew)); exact HO203.out)) hg hat)
                  have n4_ := Aside0.mk (Kd.V_afterv (Kd.V_apart_nil (by (with_reducible repeat (first | apply Kd.V_alloc | apply Kd.V_drewN | apply Kd.V_drew)); exact HO214.out)) hg hat)
                  have n5_ := Aside0.mk (Kd.R_after (Kd.R_apart_nil (by (with_reducible repeat (first | apply Kd.R_alloc | apply Kd.R_drewN | apply Kd.R_drew)); exact HO220.out)) hg hat)
                  have n6_ := Aside0.mk (Kd.R_after (Kd.R_apart_nil (by (with_reducible repeat (first | apply Kd.R_alloc | apply Kd.R_drewN | apply Kd.R_drew)); exact HO209.out)) hg hat)
                  have n7_ := Aside0.mk (hb)
                  have n8_ := Aside0.mk (ho)
                  clear HO_2
                  clear HO_10
                  clear HO198
                  clear HO203
                  clear HO214
                  clear HO220
                  clear HO209
                  clear HB
                  have HO_2 := n0_
                  have HO_10 := n1_
                  have HO198 := n2_
                  have HO203 := n3_
                  have HO214 := n4_
                  have HO220 := n5_
                  have HO209 := n6_
                  have HB := n7_
                  have HO217 := n8_
                  clear n0_ n1_ n2_ n3_ n4_ n5_ n6_ n7_ n8_
                  clear ho hb hg hat
                  refine hK.out _ _ trivial (fun hHeld => ?_)
                  clear hK K
                  refine norm_ (a' := ?_) ?_ ?_
                  rotate_left
                  ·show Act.put _ (some 103) _ = _
                   simp only [Act.put,q1,q2,q3,i64_w,i32_w]
                   rfl
                  exact norm_ (by simp only [putAll, Act.put, q1, q2, q3]) (hCont (v205, v208, v216, v219) _ ⟨(by (with_reducible repeat (first | apply Kd.R_alloc | apply Kd.R_drewN | apply Kd.R_drew)); exact Kd.R_mono HO198.out (fun _ hk => ⟨hk.1.1.1, ⟨hk.1.2, ⟨hk.2, ⟨hk.1.1.2.2, hk.1.1.2.1⟩⟩⟩⟩)), (by (with_reducible repeat (first | apply Kd.V_alloc | apply Kd.V_drewN | apply Kd.V_drew)); exact Kd.V_mono HO203.out (fun _ hk => ⟨hk.1.1.1, ⟨hk.1.1.2.1, ⟨hk.1.2, ⟨hk.2, hk.1.1.2.2⟩⟩⟩⟩)), (by (with_reducible repeat (first | apply Kd.R_alloc | apply Kd.R_drewN | apply Kd.R_drew)); exact Kd.R_mono HO209.out (fun _ hk => ⟨hk.1.1, ⟨hk.1.2.2.1, ⟨hk.2, ⟨hk.1.2.2.2, hk.1.2.1⟩⟩⟩⟩)), (by (with_reducible repeat (first | apply Kd.V_alloc | apply Kd.V_drewN | apply Kd.V_drew)); exact Kd.V_mono HO214.out (fun _ hk => ⟨hk.1.1.1, ⟨hk.1.2, ⟨hk.2, ⟨hk.1.1.2.2, hk.1.1.2.1⟩⟩⟩⟩)), (by (with_reducible repeat (first | apply Kd.R_alloc | apply Kd.R_drewN | apply Kd.R_drew)); exact Kd.R_mono HO217.out (fun _ hk => ⟨hk.1, ⟨hk.2.2.1, ⟨hk.2.2.2.2, ⟨hk.2.2.2.1, hk.2.1⟩⟩⟩⟩)), (by (with_reducible repeat (first | apply Kd.R_alloc | apply Kd.R_drewN | apply Kd.R_drew)); exact Kd.R_mono HO220.out (fun _ hk => ⟨hk.1.1.1, ⟨hk.1.1.2.2, ⟨hk.1.2, ⟨hk.2, hk.1.1.2.1⟩⟩⟩⟩)), (by (with_reducible repeat (first | apply Kd.R_alloc | apply Kd.R_drewN | apply Kd.R_drew)); exact Kd.R_mono HO_10.out (fun _ hk => ⟨hk.1.1.1, ⟨hk.1.1.2.1, ⟨hk.1.2, ⟨hk.2, hk.1.1.2.2⟩⟩⟩⟩)), (by (with_reducible repeat (first | apply Kd.V_alloc | apply Kd.V_drewN | apply Kd.V_drew)); exact Kd.V_mono HO_2.out (fun _ hk => ⟨hk.1.1.1, ⟨hk.1.1.2.2.1, ⟨hk.1.2, ⟨hk.2, ⟨hk.1.1.2.2.2, hk.1.1.2.1⟩⟩⟩⟩⟩)), (by repeat (first | (with_reducible first | exact HB.out | apply below_alloc | apply pw_below_drewN | apply below_drew1) | exact HB.out))⟩)
                ·skip
                 refine Kd.R_lit_step (Kd.int .u8) _ 5 ?hg (N := 104) ?hd (xs := ([0] : List Int)) (inner := [.int .u8 0]) (ok := fun _ => True) (okp := fun _ => True) ?hr ?hp (fun _ hk => hk) trivial (Below.refl _ _) (Nat.le_refl _) (by simp) ?_; (case hd => rfl); (case hg => rfl); (case hr => first | (go_simp; done) | (go_simp; rfl)); (case hp => exact (Reps.one (show Kd.M (Kd.int .u8) _ _ _ 0 [.int .u8 0] from rfl) (Reps.none _ _)))
                 intro v219 w72 ho73 hb hg_ hnew_
                 clear hg_ hnew_
                 (first | rw [← Ny218.out] at ho73 | (simp only [Int.reduceToNat] at ho73; rw [← Ny218.out] at ho73))
                 have n0_ := Aside0.mk (Kd.V_elder' (by (with_reducible repeat (first | apply Kd.V_alloc | apply Kd.V_drewN | apply Kd.V_drew)); exact HO_2.out) (Kd.R_base ho73) hb)
                 have n1_ := Aside0.mk (Kd.R_elder' (by (with_reducible repeat (first | apply Kd.R_alloc | apply Kd.R_drewN | apply Kd.R_drew)); exact HO_10.out) (Kd.R_base ho73) hb)
                 have n2_ := Aside0.mk (Kd.R_elder' (by (with_reducible repeat (first | apply Kd.R_alloc | apply Kd.R_drewN | apply Kd.R_drew)); exact HO198.out) (Kd.R_base ho73) hb)
                 have n3_ := Aside0.mk (Kd.V_elder' (by (with_reducible repeat (first | apply Kd.V_alloc | apply Kd.V_drewN | apply Kd.V_drew)); exact HO203.out) (Kd.R_base ho73) hb)
                 have n4_ := Aside0.mk (Kd.V_elder' (by (with_reducible repeat (first | apply Kd.V_alloc | apply Kd.V_drewN | apply Kd.V_drew)); exact HO214.out) (Kd.R_base ho73) hb)
                 have n5_ := Aside0.mk (Kd.R_lower (Kd.R_new' (Kd.R_new' (Kd.R_newM (M := fun k_ => (w.heap.size ≤ k_)) ho73 (below_size (by repeat (first | (with_reducible first | exact HB.out | apply below_alloc | apply pw_below_drewN | apply below_drew1) | exact HB.out))) (fun k_ h_ => h_)) (Kd.R_lt (by (with_reducible repeat (first | apply Kd.R_alloc | apply Kd.R_drewN | apply Kd.R_drew)); exact HO_10.out))) (Kd.R_lt (by (with_reducible repeat (first | apply Kd.R_alloc | apply Kd.R_drewN | apply Kd.R_drew)); exact HO198.out))) (below_size (by repeat (first | (with_reducible first | exact HB.out | apply below_alloc | apply pw_below_drewN | apply below_drew1) | exact HB.out))))
                 have n6_ := Aside0.mk (below_step (by repeat (first | (with_reducible first | exact HB.out | apply below_alloc | apply pw_below_drewN | apply below_drew1) | exact HB.out)) hb)
                 clear HO_2
                 clear HO_10
                 clear HO198
                 clear HO203
                 clear HO214
                 clear HB
                 have HO_2 := n0_
                 have HO_10 := n1_
                 have HO198 := n2_
                 have HO203 := n3_
                 have HO214 := n4_
                 have HO220 := n5_
                 have HB := n6_
                 clear n0_ n1_ n2_ n3_ n4_ n5_ n6_
                 clear hb ho73
                 refine hK.out _ _ trivial (fun hHeld => ?_)
                 clear hK K
                 refine norm_ (a' := ?_) ?_ ?_
                 rotate_left
                 ·show Act.put _ (some 104) _ = _
                  simp only [Act.put,q1,q2,q3,i64_w,i32_w]
                  rfl
                 refine one_ (i := 11) (N := some 94) #[I,I,I,I,I,I,I,I,I,I,I,I,I,O,I,I,I,I,I,I,O,I,O,O,O,I] rfl rfl (one_of HT_.out (by kernel_rfl)) (by decide) (fun K hK => ?_)
                 refine Kd.R_append_rows_step (Kd.int .u8) (w0 := w) w.heap.size (by rfl) (.const (.slice none 0 0)) (.tmp 93) 23 5 (.int .u8 0) 1 rfl Try.underlying23 info5 rfl (by decide) (by omega) (.slice none 0 0) ([] : List Int) t182 _ _ _ (fun k_ => (w.heap.size ≤ k_) ∧ some k_ ≠ (.slice Ao67 t182.length co67 : Value).ownBlock ∧ some k_ ≠ (.slice Ao71 y196.length co71 : Value).ownBlock ∧ some k_ ≠ (v219 : Value).ownBlock) (fun _ => False) rfl rfl ?aO ?aR (fun _ _ h => h) (fun _ h => h.elim) ?aF ?aB ?aS ?aL ?_
                 (case aR => repeat (first | exact (Kd.R_reads' HO_10.out).2.2 | (with_reducible refine Kd.C_alloc ?_ _) | (with_reducible refine Kd.C_drewN ?_ _) | (with_reducible refine Kd.C_drew ?_)))
                 (case aB => exact (by repeat (first | (with_reducible first | exact HB.out | apply below_alloc | apply pw_below_drewN | apply below_drew1) | exact HB.out)))
                 (case aF => exact (fun k_ hk => ⟨(Nat.le_trans (below_size (by repeat (first | (with_reducible first | exact HB.out | apply below_alloc | apply pw_below_drewN | apply below_drew1) | exact HB.out))) hk), Kd.fresh' (Kd.R_lt (by (with_reducible repeat (first | apply Kd.R_alloc | apply Kd.R_drewN | apply Kd.R_drew)); exact HO_10.out)) k_ hk, Kd.fresh' (Kd.R_lt (by (with_reducible repeat (first | apply Kd.R_alloc | apply Kd.R_drewN | apply Kd.R_drew)); exact HO198.out)) k_ hk, Kd.fresh' (Kd.R_lt (by (with_reducible repeat (first | apply Kd.R_alloc | apply Kd.R_drewN | apply Kd.R_drew)); exact HO220.out)) k_ hk⟩))
                 (case aO => exact ((Kd.R_nil _ _ _ _ (fun k_ => (w.heap.size ≤ k_) ∧ some k_ ≠ (.slice Ao67 t182.length co67 : Value).ownBlock ∧ some k_ ≠ (.slice Ao71 y196.length co71 : Value).ownBlock ∧ some k_ ≠ (v219 : Value).ownBlock))))
                 (case aS => exact (below_size (by repeat (first | (with_reducible first | exact HB.out | apply below_alloc | apply pw_below_drewN | apply below_drew1) | exact HB.out))))
                 (case aL => have := LMc58.out; omega)
                 intro v205 w74 ho hb hg hat
                 rw [← Ny204.out] at ho
                 have n0_ := Aside0.mk (Kd.V_afterv (Kd.V_apart_nil (by (with_reducible repeat (first | apply Kd.V_alloc | apply Kd.V_drewN | apply Kd.V_drew)); exact HO_2.out)) hg hat)
                 have n1_ := Aside0.mk (Kd.R_after (Kd.R_apart_nil (by (with_reducible repeat (first | apply Kd.R_alloc | apply Kd.R_drewN | apply Kd.R_drew)); exact HO_10.out)) hg hat)
                 have n2_ := Aside0.mk (Kd.R_after (Kd.R_apart_nil (by (with_reducible repeat (first | apply Kd.R_alloc | apply Kd.R_drewN | apply Kd.R_drew)); exact HO198.out)) hg hat)
                 have n3_ := Aside0.mk (Kd.V_afterv (Kd.V_apart_nil (by (with_reducible repeat (first | apply Kd.V_alloc | apply Kd.V_drewN | apply Kd.V_drew)); exact HO203.out)) hg hat)
                 have n4_ := Aside0.mk (Kd.V_afterv (Kd.V_apart_nil (by (with_reducible repeat (first | apply Kd.V_alloc | apply Kd.V_drewN | apply Kd.V_drew)); exact HO214.out)) hg hat)
                 have n5_ := Aside0.mk (Kd.R_after (Kd.R_apart_nil (by (with_reducible repeat (first | apply Kd.R_alloc | apply Kd.R_drewN | apply Kd.R_drew)); exact HO220.out)) hg hat)
                 have n6_ := Aside0.mk (hb)
                 have n7_ := Aside0.mk (ho)
                 clear HO_2
                 clear HO_10
                 clear HO198
                 clear HO203
                 clear HO214
                 clear HO220
                 clear HB
                 have HO_2 := n0_
                 have HO_10 := n1_
                 have HO198 := n2_
                 have HO203 := n3_
                 have HO214 := n4_
                 have HO220 := n5_
                 have HB := n6_
                 have HO206 := n7_
                 clear n0_ n1_ n2_ n3_ n4_ n5_ n6_ n7_
                 clear ho hb hg hat
                 refine hK.out _ _ trivial (fun hHeld => ?_)
                 clear hK K
                 refine norm_ (a' := ?_) ?_ ?_
                 rotate_left
                 ·show Act.put _ (some 94) _ = _
                  simp only [Act.put,q1,q2,q3,i64_w,i32_w]
                  rfl
                 refine one_ (i := 13) (N := some 96) #[I,I,I,I,I,I,I,I,I,I,I,I,I,I,I,I,I,I,I,I,O,I,O,O,O,I] rfl rfl (one_of HT_.out (by kernel_rfl)) (by decide) (fun K hK => ?_)
                 refine Kd.R_append_rows_step (Kd.int .u8) (w0 := w) w.heap.size (by rfl) (.tmp 94) (.tmp 95) 23 5 (.int .u8 0) 1 rfl Try.underlying23 info5 rfl (by decide) (by omega) v205 y204 l2 _ _ _ (fun k_ => (w.heap.size ≤ k_) ∧ some k_ ≠ (.slice Ao67 t182.length co67 : Value).ownBlock ∧ some k_ ≠ (.slice Ao71 y196.length co71 : Value).ownBlock ∧ some k_ ≠ (v219 : Value).ownBlock) (fun _ => False) rfl rfl ?aO ?aR (fun _ _ h => h) (fun _ h => h.elim) ?aF ?aB ?aS ?aL ?_
                 (case aR => repeat (first | exact (Kd.V_reads' HO_2.out).2.2 | (with_reducible refine Kd.C_alloc ?_ _) | (with_reducible refine Kd.C_drewN ?_ _) | (with_reducible refine Kd.C_drew ?_)))
                 (case aB => exact (by repeat (first | (with_reducible first | exact HB.out | apply below_alloc | apply pw_below_drewN | apply below_drew1) | exact HB.out)))
                 (case aF => exact (fun k_ hk => ⟨(Nat.le_trans (below_size (by repeat (first | (with_reducible first | exact HB.out | apply below_alloc | apply pw_below_drewN | apply below_drew1) | exact HB.out))) hk), Kd.fresh' (Kd.R_lt (by (with_reducible repeat (first | apply Kd.R_alloc | apply Kd.R_drewN | apply Kd.R_drew)); exact HO_10.out)) k_ hk, Kd.fresh' (Kd.R_lt (by (with_reducible repeat (first | apply Kd.R_alloc | apply Kd.R_drewN | apply Kd.R_drew)); exact HO198.out)) k_ hk, Kd.fresh' (Kd.R_lt (by (with_reducible repeat (first | apply Kd.R_alloc | apply Kd.R_drewN | apply Kd.R_drew)); exact HO220.out)) k_ hk⟩))
                 (case aO => exact (by (with_reducible repeat (first | apply Kd.R_alloc | apply Kd.R_drewN | apply Kd.R_drew)); exact HO206.out))
                 (case aS => exact (below_size (by repeat (first | (with_reducible first | exact HB.out | apply below_alloc | apply pw_below_drewN | apply below_drew1) | exact HB.out))))
                 (case aL => have := LMc59.out; omega)
                 intro v208 w75 ho hb hg hat
                 rw [← Ny207.out] at ho
                 have n0_ := Aside0.mk (Kd.V_afterv (ok := (fun k_ => (P2_ k_ ∨ w.heap.size ≤ k_) ∧ some k_ ≠ (.slice Ao67 t182.length co67 : Value).ownBlock ∧ some k_ ≠ (.slice Ao71 y196.length co71 : Value).ownBlock ∧ some k_ ≠ (v219 : Value).ownBlock)) (by (with_reducible repeat (first | apply Kd.V_alloc | apply Kd.V_drewN | apply Kd.V_drew)); exact Kd.V_mono HO_2.out (fun _ hk => ⟨⟨hk.1.1.1.1, ⟨hk.1.1.1.2, ⟨hk.1.1.2, hk.1.2⟩⟩⟩, hk.2⟩)) hg hat)
                 have n1_ := Aside0.mk (Kd.R_after (ok := (fun k_ => (w.heap.size ≤ k_) ∧ some k_ ≠ (.slice Ao71 y196.length co71 : Value).ownBlock ∧ some k_ ≠ (v219 : Value).ownBlock)) (by (with_reducible repeat (first | apply Kd.R_alloc | apply Kd.R_drewN | apply Kd.R_drew)); exact Kd.R_mono HO_10.out (fun _ hk => ⟨⟨hk.1.1.1, ⟨hk.1.1.2, hk.1.2⟩⟩, hk.2⟩)) hg hat)
                 have n2_ := Aside0.mk (Kd.R_after (ok := (fun k_ => (w.heap.size ≤ k_) ∧ some k_ ≠ (.slice Ao67 t182.length co67 : Value).ownBlock ∧ some k_ ≠ (v219 : Value).ownBlock)) (by (with_reducible repeat (first | apply Kd.R_alloc | apply Kd.R_drewN | apply Kd.R_drew)); exact Kd.R_mono HO198.out (fun _ hk => ⟨⟨hk.1.1.1.1, ⟨hk.1.1.2, hk.1.2⟩⟩, hk.2⟩)) hg hat)
                 have n3_ := Aside0.mk (Kd.V_afterv (ok := (fun k_ => (P2_ k_ ∨ w.heap.size ≤ k_) ∧ some k_ ≠ (.slice Ao71 y196.length co71 : Value).ownBlock ∧ some k_ ≠ (v219 : Value).ownBlock)) (by (with_reducible repeat (first | apply Kd.V_alloc | apply Kd.V_drewN | apply Kd.V_drew)); exact Kd.V_mono HO203.out (fun _ hk => ⟨⟨hk.1.1.1, ⟨hk.1.1.2, hk.1.2⟩⟩, hk.2⟩)) hg hat)
                 have n4_ := Aside0.mk (Kd.V_afterv (ok := (fun k_ => (P2_ k_ ∨ w.heap.size ≤ k_) ∧ some k_ ≠ (.slice Ao67 t182.length co67 : Value).ownBlock ∧ some k_ ≠ (v219 : Value).ownBlock)) (by (with_reducible repeat (first | apply Kd.V_alloc | apply Kd.V_drewN | apply Kd.V_drew)); exact Kd.V_mono HO214.out (fun _ hk => ⟨⟨hk.1.1.1.1, ⟨hk.1.1.2, hk.1.2⟩⟩, hk.2⟩)) hg hat)
                 have n5_ := Aside0.mk (Kd.R_after (ok := (fun k_ => (w.heap.size ≤ k_) ∧ some k_ ≠ (.slice Ao67 t182.length co67 : Value).ownBlock ∧ some k_ ≠ (.slice Ao71 y196.length co71 : Value).ownBlock)) (by (with_reducible repeat (first | apply Kd.R_alloc | apply Kd.R_drewN | apply Kd.R_drew)); exact Kd.R_mono HO220.out (fun _ hk => ⟨⟨hk.1.1.1.1, ⟨hk.1.1.2, hk.1.2⟩⟩, hk.2⟩)) hg hat)
                 have n6_ := Aside0.mk (hb)
                 have n7_ := Aside0.mk (ho)
                 clear HO_2
                 clear HO_10
                 clear HO198
                 clear HO203
                 clear HO214
                 clear HO220
                 clear HB
                 clear HO206
                 have HO_2 := n0_
                 have HO_10 := n1_
                 have HO198 := n2_
                 have HO203 := n3_
                 have HO214 := n4_
                 have HO220 := n5_
                 have HB := n6_
                 have HO209 := n7_
                 clear n0_ n1_ n2_ n3_ n4_ n5_ n6_ n7_
                 clear ho hb hg hat
                 refine hK.out _ _ trivial (fun hHeld => ?_)
                 clear hK K
                 refine norm_ (a' := ?_) ?_ ?_
                 rotate_left
                 ·show Act.put _ (some 96) _ = _
                  simp only [Act.put,q1,q2,q3,i64_w,i32_w]
                  rfl
                 refine one_ (i := 20) (N := some 103) #[I,I,I,I,I,I,I,I,I,I,I,I,I,I,I,I,I,I,I,I,I,I,O,O,O,I] rfl rfl (one_of HT_.out (by kernel_rfl)) (by decide) (fun K hK => ?_)
                 refine Kd.R_append_rows_step (Kd.int .u8) (w0 := w) w.heap.size (by rfl) (.const (.slice none 0 0)) (.tmp 102) 23 5 (.int .u8 0) 1 rfl Try.underlying23 info5 rfl (by decide) (by omega) (.slice none 0 0) ([] : List Int) y210 _ _ _ (fun k_ => (w.heap.size ≤ k_) ∧ some k_ ≠ (.slice Ao67 t182.length co67 : Value).ownBlock ∧ some k_ ≠ (.slice Ao71 y196.length co71 : Value).ownBlock ∧ some k_ ≠ (v219 : Value).ownBlock ∧ some k_ ≠ (v208 : Value).ownBlock) (fun _ => False) rfl rfl ?aO ?aR (fun _ _ h => h) (fun _ h => h.elim) ?aF ?aB ?aS ?aL ?_
                 (case aR => repeat (first | exact (Kd.V_reads' HO214.out).2.2 | (with_reducible refine Kd.C_alloc ?_ _) | (with_reducible refine Kd.C_drewN ?_ _) | (with_reducible refine Kd.C_drew ?_)))
                 (case aB => exact (by repeat (first | (with_reducible first | exact HB.out | apply below_alloc | apply pw_below_drewN | apply below_drew1) | exact HB.out)))
                 (case aF => exact (fun k_ hk => ⟨(Nat.le_trans (below_size (by repeat (first | (with_reducible first | exact HB.out | apply below_alloc | apply pw_below_drewN | apply below_drew1) | exact HB.out))) hk), Kd.fresh' (Kd.R_lt (by (with_reducible repeat (first | apply Kd.R_alloc | apply Kd.R_drewN | apply Kd.R_drew)); exact HO_10.out)) k_ hk, Kd.fresh' (Kd.R_lt (by (with_reducible repeat (first | apply Kd.R_alloc | apply Kd.R_drewN | apply Kd.R_drew)); exact HO198.out)) k_ hk, Kd.fresh' (Kd.R_lt (by (with_reducible repeat (first | apply Kd.R_alloc | apply Kd.R_drewN | apply Kd.R_drew)); exact HO220.out)) k_ hk, Kd.fresh' (Kd.R_lt (by (with_reducible repeat (first | apply Kd.R_alloc | apply Kd.R_drewN | apply Kd.R_drew)); exact HO209.out)) k_ hk⟩))
                 (case aO => exact ((Kd.R_nil _ _ _ _ (fun k_ => (w.heap.size ≤ k_) ∧ some k_ ≠ (.slice Ao67 t182.length co67 : Value).ownBlock ∧ some k_ ≠ (.slice Ao71 y196.length co71 : Value).ownBlock ∧ some k_ ≠ (v219 : Value).ownBlock ∧ some k_ ≠ (v208 : Value).ownBlock))))
                 (case aS => exact (below_size (by repeat (first | (with_reducible first | exact HB.out | apply below_alloc | apply pw_below_drewN | apply below_drew1) | exact HB.out))))
                 (case aL => have := LMc63.out; omega)
                 intro v216 w76 ho hb hg hat
                 rw [← Ny215.out] at ho
                 have n0_ := Aside0.mk (Kd.V_afterv (Kd.V_apart_nil (by (with_reducible repeat (first | apply Kd.V_alloc | apply Kd.V_drewN | apply Kd.V_drew)); exact HO_2.out)) hg hat)
                 have n1_ := Aside0.mk (Kd.R_after (Kd.R_apart_nil (by (with_reducible repeat (first | apply Kd.R_alloc | apply Kd.R_drewN | apply Kd.R_drew)); exact HO_10.out)) hg hat)
                 have n2_ := Aside0.mk (Kd.R_after (Kd.R_apart_nil (by (with_reducible repeat (first | apply Kd.R_alloc | apply Kd.R_drewN | apply Kd.R_drew)); exact HO198.out)) hg hat)
                 have n3_ := Aside0.mk (Kd.V_afterv (Kd.V_apart_nil (by (with_reducible repeat (first | apply Kd.V_alloc | apply Kd.V_drewN | apply Kd.V_drew)); exact HO203.out)) hg hat)
                 have n4_ := Aside0.mk (Kd.V_afterv (Kd.V_apart_nil (by (with_reducible repeat (first | apply Kd.V_alloc | apply Kd.V_drewN | apply Kd.V_drew)); exact HO214.out)) hg hat)
                 have n5_ := Aside0.mk (Kd.R_after (Kd.R_apart_nil (by (with_reducible repeat (first | apply Kd.R_alloc | apply Kd.R_drewN | apply Kd.R_drew)); exact HO220.out)) hg hat)
                 have n6_ := Aside0.mk (Kd.R_after (Kd.R_apart_nil (by (with_reducible repeat (first | apply Kd.R_alloc | apply Kd.R_drewN | apply Kd.R_drew)); exact HO209.out)) hg hat)
                 have n7_ := Aside0.mk (hb)
                 have n8_ := Aside0.mk (ho)
                 clear HO_2
                 clear HO_10
                 clear HO198
                 clear HO203
                 clear HO214
                 clear HO220
                 clear HO209
                 clear HB
                 have HO_2 := n0_
                 have HO_10 := n1_
                 have HO198 := n2_
                 have HO203 := n3_
                 have HO214 := n4_
                 have HO220 := n5_
                 have HO209 := n6_
                 have HB := n7_
                 have HO217 := n8_
                 clear n0_ n1_ n2_ n3_ n4_ n5_ n6_ n7_ n8_
                 clear ho hb hg hat
                 refine hK.out _ _ trivial (fun hHeld => ?_)
                 clear hK K
                 refine norm_ (a' := ?_) ?_ ?_
                 rotate_left
                 ·show Act.put _ (some 103) _ = _
                  simp only [Act.put,q1,q2,q3,i64_w,i32_w]
                  rfl
                 exact norm_ (by simp only [putAll, Act.put, q1, q2, q3]) (hCont (v205, v208, v216, v219) _ ⟨(by (with_reducible repeat (first | apply Kd.R_alloc | apply Kd.R_drewN | apply Kd.R_drew)); exact Kd.R_mono HO198.out (fun _ hk => ⟨hk.1.1.1, ⟨hk.1.2, ⟨hk.2, ⟨hk.1.1.2.2, hk.1.1.2.1⟩⟩⟩⟩)), (by (with_reducible repeat (first | apply Kd.V_alloc | apply Kd.V_drewN | apply Kd.V_drew)); exact Kd.V_mono HO203.out (fun _ hk => ⟨hk.1.1.1, ⟨hk.1.1.2.1, ⟨hk.1.2, ⟨hk.2, hk.1.1.2.2⟩⟩⟩⟩)), (by (with_reducible repeat (first | apply Kd.R_alloc | apply Kd.R_drewN | apply Kd.R_drew)); exact Kd.R_mono HO209.out (fun _ hk => ⟨hk.1.1, ⟨hk.1.2.2.1, ⟨hk.2, ⟨hk.1.2.2.2, hk.1.2.1⟩⟩⟩⟩)), (by (with_reducible repeat (first | apply Kd.V_alloc | apply Kd.V_drewN | apply Kd.V_drew)); exact Kd.V_mono HO214.out (fun _ hk => ⟨hk.1.1.1, ⟨hk.1.2, ⟨hk.2, ⟨hk.1.1.2.2, hk.1.1.2.1⟩⟩⟩⟩)), (by (with_reducible repeat (first | apply Kd.R_alloc | apply Kd.R_drewN | apply Kd.R_drew)); exact Kd.R_mono HO217.out (fun _ hk => ⟨hk.1, ⟨hk.2.2.1, ⟨hk.2.2.2.2, ⟨hk.2.2.2.1, hk.2.1⟩⟩⟩⟩)), (by (with_reducible repeat (first | apply Kd.R_alloc | apply Kd.R_drewN | apply Kd.R_drew)); exact Kd.R_mono HO220.out (fun _ hk => ⟨hk.1.1.1, ⟨hk.1.1.2.2, ⟨hk.1.2, ⟨hk.2, hk.1.1.2.1⟩⟩⟩⟩)), (by (with_reducible repeat (first | apply Kd.R_alloc | apply Kd.R_drewN | apply Kd.R_drew)); exact Kd.R_mono HO_10.out (fun _ hk => ⟨hk.1.1.1, ⟨hk.1.1.2.1, ⟨hk.1.2, ⟨hk.2, hk.1.1.2.2⟩⟩⟩⟩)), (by (with_reducible repeat (first | apply Kd.V_alloc | apply Kd.V_drewN | apply Kd.V_drew)); exact Kd.V_mono HO_2.out (fun _ hk => ⟨hk.1.1.1, ⟨hk.1.1.2.2.1, ⟨hk.1.2, ⟨hk.2, ⟨hk.1.1.2.2.2, hk.1.1.2.1⟩⟩⟩⟩⟩)), (by repeat (first | (with_reducible first | exact HB.out | apply below_alloc | apply pw_below_drewN | apply below_drew1) | exact HB.out))⟩)
               rintro ⟨v205, v208, v216, v219⟩ w77 ⟨h0_, h1_, h2_, h3_, h4_, h5_, h6_, h7_, h8_⟩
               have n0_ : Aside0 (Kd.R (Kd.int .u8) 5 w77 w.heap.size (fun k_ => (w.heap.size ≤ k_) ∧ some k_ ≠ (v208 : Value).ownBlock ∧ some k_ ≠ (v216 : Value).ownBlock ∧ some k_ ≠ (v219 : Value).ownBlock ∧ some k_ ≠ (.slice Ao67 t182.length co67 : Value).ownBlock) (.slice Ao71 y196.length co71) y196) := ⟨h0_⟩
               have n1_ : Aside0 (Kd.V (Kd.int .u8) 5 w77 w.heap.size (fun k_ => (P2_ k_ ∨ w.heap.size ≤ k_) ∧ some k_ ≠ (.slice Ao71 y196.length co71 : Value).ownBlock ∧ some k_ ≠ (v208 : Value).ownBlock ∧ some k_ ≠ (v216 : Value).ownBlock ∧ some k_ ≠ (v219 : Value).ownBlock) (.slice Ao67 y199.length co67) y199) := ⟨h1_⟩
               have n2_ : Aside0 (Kd.R (Kd.int .u8) 5 w77 w.heap.size (fun k_ => (w.heap.size ≤ k_) ∧ some k_ ≠ (.slice Ao71 y196.length co71 : Value).ownBlock ∧ some k_ ≠ (v216 : Value).ownBlock ∧ some k_ ≠ (v219 : Value).ownBlock ∧ some k_ ≠ (.slice Ao67 t182.length co67 : Value).ownBlock) v208 y207) := ⟨h2_⟩
               have n3_ : Aside0 (Kd.V (Kd.int .u8) 5 w77 w.heap.size (fun k_ => (P2_ k_ ∨ w.heap.size ≤ k_) ∧ some k_ ≠ (v208 : Value).ownBlock ∧ some k_ ≠ (v216 : Value).ownBlock ∧ some k_ ≠ (v219 : Value).ownBlock ∧ some k_ ≠ (.slice Ao67 t182.length co67 : Value).ownBlock) (.slice Ao71 y210.length co71) y210) := ⟨h3_⟩
               have n4_ : Aside0 (Kd.R (Kd.int .u8) 5 w77 w.heap.size (fun k_ => (w.heap.size ≤ k_) ∧ some k_ ≠ (.slice Ao71 y196.length co71 : Value).ownBlock ∧ some k_ ≠ (v208 : Value).ownBlock ∧ some k_ ≠ (v219 : Value).ownBlock ∧ some k_ ≠ (.slice Ao67 t182.length co67 : Value).ownBlock) v216 y215) := ⟨h4_⟩
               have n5_ : Aside0 (Kd.R (Kd.int .u8) 5 w77 w.heap.size (fun k_ => (w.heap.size ≤ k_) ∧ some k_ ≠ (.slice Ao71 y196.length co71 : Value).ownBlock ∧ some k_ ≠ (v208 : Value).ownBlock ∧ some k_ ≠ (v216 : Value).ownBlock ∧ some k_ ≠ (.slice Ao67 t182.length co67 : Value).ownBlock) v219 y218) := ⟨h5_⟩
               have n6_ : Aside0 (Kd.R (Kd.int .u8) 5 w77 w.heap.size (fun k_ => (w.heap.size ≤ k_) ∧ some k_ ≠ (.slice Ao71 y196.length co71 : Value).ownBlock ∧ some k_ ≠ (v208 : Value).ownBlock ∧ some k_ ≠ (v216 : Value).ownBlock ∧ some k_ ≠ (v219 : Value).ownBlock) (.slice Ao67 t182.length co67) t182) := ⟨h6_⟩
               have n7_ : Aside0 (Kd.V (Kd.int .u8) 5 w77 w.heap.size (fun k_ => (P2_ k_ ∨ w.heap.size ≤ k_) ∧ some k_ ≠ (.slice Ao71 y196.length co71 : Value).ownBlock ∧ some k_ ≠ (v208 : Value).ownBlock ∧ some k_ ≠ (v216 : Value).ownBlock ∧ some k_ ≠ (v219 : Value).ownBlock ∧ some k_ ≠ (.slice Ao67 t182.length co67 : Value).ownBlock) (.slice A2 l2.length c2) l2) := ⟨h7_⟩
               have n8_ : Aside0 (Below w.heap.size w w77) := ⟨h8_⟩
               clear HO_2
               clear HO_10
               clear HO198
               clear HB
               clear h0_ h1_ h2_ h3_ h4_ h5_ h6_ h7_ h8_
               have HO198 := n0_
               have HO203 := n1_
               have HO209 := n2_
               have HO214 := n3_
               have HO217 := n4_
               have HO220 := n5_
               have HO_10 := n6_
               have HO_2 := n7_
               have HB := n8_
               clear n0_ n1_ n2_ n3_ n4_ n5_ n6_ n7_ n8_
               have hHeld := trivial
               obtain ⟨Ao79, co79, eo79⟩ := Kd.R_slice HO220.out
               (first | subst eo79 | (injection eo79 with f1_ f2_ f3_; have f4_ := f1_.symm; have f5_ := f3_.symm; clear f1_ f2_ f3_; subst f4_; subst f5_))
               refine norm_ (a' := ?_) ?_ ?_
               rotate_left
               ·simp only [putAll, Act.put, q1, q2, q3]
                rfl
               refine one_ (i := 22) (N := some 105) #[I,I,I,I,I,I,I,I,I,I,I,I,I,I,I,I,I,I,I,I,I,I,I,O,O,I] rfl rfl (one_of HT_.out (by kernel_rfl)) (by decide) (fun K hK => ?_)
               refine Kd.R_append_rows_step (Kd.int .u8) (w0 := w) w.heap.size (by rfl) (.tmp 103) (.tmp 104) 23 5 (.int .u8 0) 1 rfl Try.underlying23 info5 rfl (by decide) (by omega) v216 y215 y218 _ _ _ (fun k_ => (w.heap.size ≤ k_) ∧ some k_ ≠ (.slice Ao67 t182.length co67 : Value).ownBlock ∧ some k_ ≠ (.slice Ao71 y196.length co71 : Value).ownBlock ∧ some k_ ≠ (v208 : Value).ownBlock ∧ some k_ ≠ (.slice Ao79 y218.length co79 : Value).ownBlock) (fun _ => False) rfl rfl ?aO ?aR (fun _ _ h => h) (fun _ h => h.elim) ?aF ?aB ?aS ?aL ?_
               (case aR => repeat (first | exact (Kd.R_reads' HO220.out).2.2 | (with_reducible refine Kd.C_alloc ?_ _) | (with_reducible refine Kd.C_drewN ?_ _) | (with_reducible refine Kd.C_drew ?_)))
               (case aB => exact (by repeat (first | (with_reducible first | exact HB.out | apply below_alloc | apply pw_below_drewN | apply below_drew1) | exact HB.out)))
               (case aF => exact (fun k_ hk => ⟨(Nat.le_trans (below_size (by repeat (first | (with_reducible first | exact HB.out | apply below_alloc | apply pw_below_drewN | apply below_drew1) | exact HB.out))) hk), Kd.fresh' (Kd.R_lt (by (with_reducible repeat (first | apply Kd.R_alloc | apply Kd.R_drewN | apply Kd.R_drew)); exact HO_10.out)) k_ hk, Kd.fresh' (Kd.R_lt (by (with_reducible repeat (first | apply Kd.R_alloc | apply Kd.R_drewN | apply Kd.R_drew)); exact HO198.out)) k_ hk, Kd.fresh' (Kd.R_lt (by (with_reducible repeat (first | apply Kd.R_alloc | apply Kd.R_drewN | apply Kd.R_drew)); exact HO209.out)) k_ hk, Kd.fresh' (Kd.R_lt (by (with_reducible repeat (first | apply Kd.R_alloc | apply Kd.R_drewN | apply Kd.R_drew)); exact HO220.out)) k_ hk⟩))
               (case aO => exact (by (with_reducible repeat (first | apply Kd.R_alloc | apply Kd.R_drewN | apply Kd.R_drew)); exact Kd.R_mono HO217.out (fun _ hk => ⟨hk.1, ⟨hk.2.2.2.2, ⟨hk.2.1, ⟨hk.2.2.1, hk.2.2.2.1⟩⟩⟩⟩)))
               (case aS => exact (below_size (by repeat (first | (with_reducible first | exact HB.out | apply below_alloc | apply pw_below_drewN | apply below_drew1) | exact HB.out))))
               (case aL => have := LMc64.out; omega)
               intro v222 w78 ho hb hg hat
               rw [← Ny221.out] at ho
               have n0_ := Aside0.mk (Kd.V_afterv (ok := (fun k_ => (P2_ k_ ∨ w.heap.size ≤ k_) ∧ some k_ ≠ (.slice Ao67 t182.length co67 : Value).ownBlock ∧ some k_ ≠ (.slice Ao71 y196.length co71 : Value).ownBlock ∧ some k_ ≠ (v208 : Value).ownBlock ∧ some k_ ≠ (.slice Ao79 y218.length co79 : Value).ownBlock)) (by (with_reducible repeat (first | apply Kd.V_alloc | apply Kd.V_drewN | apply Kd.V_drew)); exact Kd.V_mono HO_2.out (fun _ hk => ⟨⟨hk.1, ⟨hk.2.2.2.2.2, ⟨hk.2.1, ⟨hk.2.2.1, hk.2.2.2.2.1⟩⟩⟩⟩, hk.2.2.2.1⟩)) hg hat)
               have n1_ := Aside0.mk (Kd.R_after (ok := (fun k_ => (w.heap.size ≤ k_) ∧ some k_ ≠ (.slice Ao71 y196.length co71 : Value).ownBlock ∧ some k_ ≠ (v208 : Value).ownBlock ∧ some k_ ≠ (.slice Ao79 y218.length co79 : Value).ownBlock)) (by (with_reducible repeat (first | apply Kd.R_alloc | apply Kd.R_drewN | apply Kd.R_drew)); exact Kd.R_mono HO_10.out (fun _ hk => ⟨⟨hk.1, ⟨hk.2.1, ⟨hk.2.2.1, hk.2.2.2.2⟩⟩⟩, hk.2.2.2.1⟩)) hg hat)
               have n2_ := Aside0.mk (Kd.R_after (ok := (fun k_ => (w.heap.size ≤ k_) ∧ some k_ ≠ (.slice Ao67 t182.length co67 : Value).ownBlock ∧ some k_ ≠ (v208 : Value).ownBlock ∧ some k_ ≠ (.slice Ao79 y218.length co79 : Value).ownBlock)) (by (with_reducible repeat (first | apply Kd.R_alloc | apply Kd.R_drewN | apply Kd.R_drew)); exact Kd.R_mono HO198.out (fun _ hk => ⟨⟨hk.1, ⟨hk.2.2.2.2, ⟨hk.2.1, hk.2.2.2.1⟩⟩⟩, hk.2.2.1⟩)) hg hat)
               have n3_ := Aside0.mk (Kd.V_afterv (ok := (fun k_ => (P2_ k_ ∨ w.heap.size ≤ k_) ∧ some k_ ≠ (.slice Ao71 y196.length co71 : Value).ownBlock ∧ some k_ ≠ (v208 : Value).ownBlock ∧ some k_ ≠ (.slice Ao79 y218.length co79 : Value).ownBlock)) (by (with_reducible repeat (first | apply Kd.V_alloc | apply Kd.V_drewN | apply Kd.V_drew)); exact Kd.V_mono HO203.out (fun _ hk => ⟨⟨hk.1, ⟨hk.2.1, ⟨hk.2.2.1, hk.2.2.2.2⟩⟩⟩, hk.2.2.2.1⟩)) hg hat)
               have n4_ := Aside0.mk (Kd.V_afterv (ok := (fun k_ => (P2_ k_ ∨ w.heap.size ≤ k_) ∧ some k_ ≠ (.slice Ao67 t182.length co67 : Value).ownBlock ∧ some k_ ≠ (v208 : Value).ownBlock ∧ some k_ ≠ (.slice Ao79 y218.length co79 : Value).ownBlock)) (by (with_reducible repeat (first | apply Kd.V_alloc | apply Kd.V_drewN | apply Kd.V_drew)); exact Kd.V_mono HO214.out (fun _ hk => ⟨⟨hk.1, ⟨hk.2.2.2.2, ⟨hk.2.1, hk.2.2.2.1⟩⟩⟩, hk.2.2.1⟩)) hg hat)
               have n5_ := Aside0.mk (Kd.R_after (ok := (fun k_ => (w.heap.size ≤ k_) ∧ some k_ ≠ (.slice Ao67 t182.length co67 : Value).ownBlock ∧ some k_ ≠ (.slice Ao71 y196.length co71 : Value).ownBlock ∧ some k_ ≠ (.slice Ao79 y218.length co79 : Value).ownBlock)) (by (with_reducible repeat (first | apply Kd.R_alloc | apply Kd.R_drewN | apply Kd.R_drew)); exact Kd.R_mono HO209.out (fun _ hk => ⟨⟨hk.1, ⟨hk.2.2.2.2, ⟨hk.2.1, hk.2.2.2.1⟩⟩⟩, hk.2.2.1⟩)) hg hat)
               have n6_ := Aside0.mk (Kd.R_after (ok := (fun k_ => (w.heap.size ≤ k_) ∧ some k_ ≠ (.slice Ao67 t182.length co67 : Value).ownBlock ∧ some k_ ≠ (.slice Ao71 y196.length co71 : Value).ownBlock ∧ some k_ ≠ (v208 : Value).ownBlock)) (by (with_reducible repeat (first | apply Kd.R_alloc | apply Kd.R_drewN | apply Kd.R_drew)); exact Kd.R_mono HO220.out (fun _ hk => ⟨⟨hk.1, ⟨hk.2.2.2.2, ⟨hk.2.1, hk.2.2.1⟩⟩⟩, hk.2.2.2.1⟩)) hg hat)
               have n7_ := Aside0.mk (hb)
               have n8_ := Aside0.mk (ho)
               clear HO_2
               clear HO_10
               clear HO198
               clear HO203
               clear HO214
               clear HO209
               clear HO220
               clear HB
               clear HO217
               have HO_2 := n0_
               have HO_10 := n1_
               have HO198 := n2_
               have HO203 := n3_
               have HO214 := n4_
               have HO209 := n5_
               have HO220 := n6_
               have HB := n7_
               have HO223 := n8_
               clear n0_ n1_ n2_ n3_ n4_ n5_ n6_ n7_ n8_
               clear ho hb hg hat
               obtain ⟨Ao80, co80, eo80⟩ := Kd.R_slice HO209.out
               (first | subst eo80 | (injection eo80 with f1_ f2_ f3_; have f4_ := f1_.symm; have f5_ := f3_.symm; clear f1_ f2_ f3_; subst f4_; subst f5_))
               obtain ⟨Ao81, co81, eo81⟩ := Kd.R_slice HO223.out
               (first | subst eo81 | (injection eo81 with f1_ f2_ f3_; have f4_ := f1_.symm; have f5_ := f3_.symm; clear f1_ f2_ f3_; subst f4_; subst f5_))
               refine hK.out _ _ trivial (fun hHeld => ?_)
               clear hK K
               refine norm_ (a' := ?_) ?_ ?_
               rotate_left
               ·show Act.put _ (some 105) _ = _
                simp only [Act.put,q1,q2,q3,i64_w,i32_w]
                rfl
               refine one_ (i := 23) (N := some 106) #[I,I,I,I,I,I,I,I,I,I,I,I,I,I,I,I,I,I,I,I,I,I,I,I,O,I] rfl rfl (one_of HT_.out (by kernel_rfl)) (by decide) (fun K hK => ?_)
               refine Kd.N_lit_step (Kd.slice 5 (Kd.int .u8)) _ 23 ?hg (N' := 106) ?hd (xs := ([l2, t182, y199, y207, y196, y221] : List (List Int))) (inner := [.slice A2 l2.length c2, .slice Ao67 t182.length co67, .slice Ao67 y199.length co67, .slice Ao80 y207.length co80, .slice Ao71 y196.length co71, .slice Ao81 y221.length co81]) (ok := (fun k_ => (P2_ k_ ∨ w.heap.size ≤ k_) ∧ some k_ ≠ (.slice Ao79 y218.length co79 : Value).ownBlock)) (okp := (fun k_ => (P2_ k_ ∨ w.heap.size ≤ k_) ∧ some k_ ≠ (.slice Ao79 y218.length co79 : Value).ownBlock)) ?hr ?hp (fun _ hk => hk) ((show ∀ k_, w78.heap.size ≤ k_ → (fun k_ => (P2_ k_ ∨ w.heap.size ≤ k_) ∧ some k_ ≠ (.slice Ao79 y218.length co79 : Value).ownBlock) k_ from fun k_ hk => ⟨(.inr (Nat.le_trans (below_size (by repeat (first | (with_reducible first | exact HB.out | apply below_alloc | apply pw_below_drewN | apply below_drew1) | exact HB.out))) hk)), Kd.fresh' (Kd.R_lt (by (with_reducible repeat (first | apply Kd.R_alloc | apply Kd.R_drewN | apply Kd.R_drew)); exact HO220.out)) k_ hk⟩) _ (Nat.le_refl _)) (Below.refl _ _) (Nat.le_refl _) (by simp) ?_; (case hd => rfl); (case hg => rfl); (case hr => first | (go_simp; done) | (go_simp; rfl)); (case hp => exact (Reps.one (show Kd.FK (Kd.slice 5 (Kd.int .u8)) _ _ l2 [.slice A2 l2.length c2] from (Kd.FK_slice_mk (Kd.V_reads' (Kd.V_mono (ok' := (fun k_ => (P2_ k_ ∨ w.heap.size ≤ k_) ∧ some k_ ≠ (.slice Ao79 y218.length co79 : Value).ownBlock)) (HO_2.out) (fun k_ hk => ⟨hk.1.1, hk.1.2.2.2.2⟩))).2.1 (Kd.V_F (Kd.V_mono (ok' := (fun k_ => (P2_ k_ ∨ w.heap.size ≤ k_) ∧ some k_ ≠ (.slice Ao79 y218.length co79 : Value).ownBlock)) (HO_2.out) (fun k_ hk => ⟨hk.1.1, hk.1.2.2.2.2⟩))))) (Reps.one (show Kd.FK (Kd.slice 5 (Kd.int .u8)) _ _ t182 [.slice Ao67 t182.length co67] from (Kd.FK_slice_mk (Kd.R_reads' (Kd.R_mono (ok' := (fun k_ => (P2_ k_ ∨ w.heap.size ≤ k_) ∧ some k_ ≠ (.slice Ao79 y218.length co79 : Value).ownBlock)) (HO_10.out) (fun k_ hk => ⟨(.inr (hk.1.1)), hk.1.2.2.2⟩))).2.1 (Kd.R_F (Kd.R_mono (ok' := (fun k_ => (P2_ k_ ∨ w.heap.size ≤ k_) ∧ some k_ ≠ (.slice Ao79 y218.length co79 : Value).ownBlock)) (HO_10.out) (fun k_ hk => ⟨(.inr (hk.1.1)), hk.1.2.2.2⟩))))) (Reps.one (show Kd.FK (Kd.slice 5 (Kd.int .u8)) _ _ y199 [.slice Ao67 y199.length co67] from (Kd.FK_slice_mk (Kd.V_reads' (Kd.V_mono (ok' := (fun k_ => (P2_ k_ ∨ w.heap.size ≤ k_) ∧ some k_ ≠ (.slice Ao79 y218.length co79 : Value).ownBlock)) (HO203.out) (fun k_ hk => ⟨hk.1.1, hk.1.2.2.2⟩))).2.1 (Kd.V_F (Kd.V_mono (ok' := (fun k_ => (P2_ k_ ∨ w.heap.size ≤ k_) ∧ some k_ ≠ (.slice Ao79 y218.length co79 : Value).ownBlock)) (HO203.out) (fun k_ hk => ⟨hk.1.1, hk.1.2.2.2⟩))))) (Reps.one (show Kd.FK (Kd.slice 5 (Kd.int .u8)) _ _ y207 [.slice Ao80 y207.length co80] from (Kd.FK_slice_mk (Kd.R_reads' (Kd.R_mono (ok' := (fun k_ => (P2_ k_ ∨ w.heap.size ≤ k_) ∧ some k_ ≠ (.slice Ao79 y218.length co79 : Value).ownBlock)) (HO209.out) (fun k_ hk => ⟨(.inr (hk.1.1)), hk.1.2.2.2⟩))).2.1 (Kd.R_F (Kd.R_mono (ok' := (fun k_ => (P2_ k_ ∨ w.heap.size ≤ k_) ∧ some k_ ≠ (.slice Ao79 y218.length co79 : Value).ownBlock)) (HO209.out) (fun k_ hk => ⟨(.inr (hk.1.1)), hk.1.2.2.2⟩))))) (Reps.one (show Kd.FK (Kd.slice 5 (Kd.int .u8)) _ _ y196 [.slice Ao71 y196.length co71] from (Kd.FK_slice_mk (Kd.R_reads' (Kd.R_mono (ok' := (fun k_ => (P2_ k_ ∨ w.heap.size ≤ k_) ∧ some k_ ≠ (.slice Ao79 y218.length co79 : Value).ownBlock)) (HO198.out) (fun k_ hk => ⟨(.inr (hk.1.1)), hk.1.2.2.2⟩))).2.1 (Kd.R_F (Kd.R_mono (ok' := (fun k_ => (P2_ k_ ∨ w.heap.size ≤ k_) ∧ some k_ ≠ (.slice Ao79 y218.length co79 : Value).ownBlock)) (HO198.out) (fun k_ hk => ⟨(.inr (hk.1.1)), hk.1.2.2.2⟩))))) (Reps.one (show Kd.FK (Kd.slice 5 (Kd.int .u8)) _ _ y221 [.slice Ao81 y221.length co81] from (Kd.FK_slice_mk (Kd.R_reads' (Kd.R_mono (ok' := (fun k_ => (P2_ k_ ∨ w.heap.size ≤ k_) ∧ some k_ ≠ (.slice Ao79 y218.length co79 : Value).ownBlock)) (HO223.out) (fun k_ hk => ⟨(.inr (hk.1)), hk.2.2.2.2⟩))).2.1 (Kd.R_F (Kd.R_mono (ok' := (fun k_ => (P2_ k_ ∨ w.heap.size ≤ k_) ∧ some k_ ≠ (.slice Ao79 y218.length co79 : Value).ownBlock)) (HO223.out) (fun k_ hk => ⟨(.inr (hk.1)), hk.2.2.2.2⟩))))) (Reps.none _ _))))))))
               intro v225 w82 ho83 hb hg_ hnew_
               clear hg_ hnew_
               (first | rw [← Ny224.out] at ho83 | (simp only [Int.reduceToNat] at ho83; rw [← Ny224.out] at ho83))
               have n0_ := Aside0.mk (Kd.V_elder' (by (with_reducible repeat (first | apply Kd.V_alloc | apply Kd.V_drewN | apply Kd.V_drew)); exact HO_2.out) (Kd.N_base ho83) hb)
               have n1_ := Aside0.mk (Kd.V_elder' (by (with_reducible repeat (first | apply Kd.V_alloc | apply Kd.V_drewN | apply Kd.V_drew)); exact HO203.out) (Kd.N_base ho83) hb)
               have n2_ := Aside0.mk (Kd.V_elder' (by (with_reducible repeat (first | apply Kd.V_alloc | apply Kd.V_drewN | apply Kd.V_drew)); exact HO214.out) (Kd.N_base ho83) hb)
               have n3_ := Aside0.mk (Kd.R_below (by (with_reducible repeat (first | apply Kd.R_alloc | apply Kd.R_drewN | apply Kd.R_drew)); exact HO220.out) hb)
               have n4_ := Aside0.mk (Kd.N_lower ho83 (below_size (by repeat (first | (with_reducible first | exact HB.out | apply below_alloc | apply pw_below_drewN | apply below_drew1) | exact HB.out))))
               have n5_ := Aside0.mk (below_step (by repeat (first | (with_reducible first | exact HB.out | apply below_alloc | apply pw_below_drewN | apply below_drew1) | exact HB.out)) hb)
               clear HO_2
               clear HO203
               clear HO214
               clear HO220
               clear HB
               clear HO198
               clear HO209
               clear HO223
               clear HO_10
               have HO_2 := n0_
               have HO203 := n1_
               have HO214 := n2_
               have HO220 := n3_
               have HO226 := n4_
               have HB := n5_
               clear n0_ n1_ n2_ n3_ n4_ n5_
               clear hb ho83
               obtain ⟨Ao84, co84, eo84⟩ := Kd.N_slice HO226.out
               (first | subst eo84 | (injection eo84 with f1_ f2_ f3_; have f4_ := f1_.symm; have f5_ := f3_.symm; clear f1_ f2_ f3_; subst f4_; subst f5_))
               refine hK.out _ _ trivial (fun hHeld => ?_)
               clear hK K
               refine norm_ (a' := ?_) ?_ ?_
               rotate_left
               ·show Act.put _ (some 106) _ = _
                simp only [Act.put,q1,q2,q3,i64_w,i32_w]
                rfl
               refine pure_ (i := 24) (N := some 107) (v := ?_) (a' := ?_) #[I,I,I,I,I,I,I,I,I,I,I,I,I,I,I,I,I,I,I,I,I,I,I,I,I,I] rfl rfl (any_of HT_.out (by kernel_rfl)) (fun _ _ _ h => h) (Or.inl ⟨by rfl, ?_⟩) ?_ ?_
               rotate_left
               ·intro w'
                go_simp
                with_reducible rfl
               rotate_left
               ·simp only [Act.put,q1,q2,q3,i64_w,i32_w]
                rfl
               refine done_ (done_of HT_.out (by kernel_rfl)) ?_
               try go_wp2
               go_loopg [108] kj10 (fun kq v108 w' => ∃ (x108_2 : Int), v108 = .int .i64 x108_2 ∧ Aside0 (repriselaw1_LebTells.l0 kq a1 l2 a3 y224 (y224.length : Int) x108_2 = some r) ∧ Aside0 (kq ≤ kj10) ∧ Aside0 (Kd.V (Kd.int .u8) 5 w' w.heap.size (fun k_ => (P2_ k_ ∨ w.heap.size ≤ k_) ∧ some k_ ≠ ((.slice Ao84 y224.length co84) : Value).ownBlock) (.slice A2 l2.length c2) l2) ∧ Aside0 (Kd.N (Kd.slice 5 (Kd.int .u8)) 23 w' w.heap.size (fun k_ => (P2_ k_ ∨ w.heap.size ≤ k_)) (.slice Ao84 y224.length co84) y224) ∧ Aside0 (Below w.heap.size w w'))
               case atStart => exact ⟨(0), (by first | rfl | (simp; done) | (simp [*]; done)), H', ⟨Nat.le_refl _⟩, ⟨by (with_reducible repeat (first | apply Kd.V_alloc | apply Kd.V_drewN | apply Kd.V_drew)); exact Kd.V_mono HO_2.out (fun _ hk => ⟨hk.1.1.1, hk.2⟩)⟩, ⟨by (with_reducible repeat (first | apply Kd.N_alloc | apply Kd.N_drewN | apply Kd.N_drew)); exact Kd.N_mono HO226.out (fun _ hk => hk.1)⟩, ⟨by repeat (first | (with_reducible first | exact HB.out | apply below_alloc | apply pw_below_drewN | apply below_drew1) | exact HB.out)⟩⟩
               case round =>
                clear H'
                try clear c2
                try clear p2
                try clear c5
                try clear c6
                try clear c58
                try clear c59
                try clear c63
                try clear c64
                obtain ⟨x108_2, rfl, HA, HK2, HO_2, HO_106, HB⟩ := hrel
                cases gk with
                | zero => exact absurd HA.out (by simp [repriselaw1_LebTells.l0])
                | succ k2 =>
                 have H := HA.out
                 clear HA
                 simp only [repriselaw1_LebTells.l0] at H
                 by_cases c85 : x108_2 < (y224.length : Int)
                 ·rw [if_pos c85] at H
                  have c85b0 : decide (x108_2 < (y224.length : Int)) = true := decide_eq_true c85
                  clear c85
                  by_cases c86 : 0 ≤ x108_2
                  ·rw [if_pos c86] at H
                   have c86b0 : decide (0 ≤ x108_2) = true := decide_eq_true c86
                   clear c86
                   by_cases c87 : x108_2 < (y224.length : Int)
                   ·rw [if_pos c87] at H
                    have c87b0 : decide (x108_2 < (y224.length : Int)) = true := decide_eq_true c87
                    clear c87
                    replace H := Option.bind_eq_some_iff.mp H
                    obtain ⟨⟨t234, t235, t236⟩, A880, H⟩ := H
                    replace H : ((repriseref1_Read.f k2 (rd_L2 y224 x108_2)).bind fun bt237 => ((leb_ReadBytes.f k2 (rd_L2 y224 x108_2) a3).bind fun bt240 => ((repriseref1_ReadBytes.f k2 (rd_L2 y224 x108_2) a3).bind fun bt245 => (if t234 = bt237.1 then (if t235 = bt237.2.1 then (if t236 = bt237.2.2 then (if (strOfNums bt240.1).toList = (strOfNums bt245.1).toList then (if bt240.2.1 = bt245.2.1 then (if bt240.2.2 = bt245.2.2 then ((leb_ReadBytes.f k2 (rd_L2 y224 x108_2) (wrap64 (a1))).bind fun bt250 => ((repriseref1_ReadBytes.f k2 (rd_L2 y224 x108_2) (wrap64 (a1))).bind fun bt255 => (if (strOfNums bt250.1).toList = (strOfNums bt255.1).toList then (if bt250.2.1 = bt255.2.1 then (if bt250.2.2 = bt255.2.2 then (repriselaw1_LebTells.l0 k2 a1 l2 a3 y224 (y224.length : Int) (wrap64 (x108_2 + 1))) else (none)) else (none)) else (none)))) else (none)) else (none)) else (none)) else (none)) else (none)) else (none))))) = some r := H
                    have A88 := Aside0.mk A880
                    clear A880
                    replace H := Option.bind_eq_some_iff.mp H
                    obtain ⟨⟨t237, t238, t239⟩, A890, H⟩ := H
                    replace H : ((leb_ReadBytes.f k2 (rd_L2 y224 x108_2) a3).bind fun bt240 => ((repriseref1_ReadBytes.f k2 (rd_L2 y224 x108_2) a3).bind fun bt245 => (if t234 = t237 then (if t235 = t238 then (if t236 = t239 then (if (strOfNums bt240.1).toList = (strOfNums bt245.1).toList then (if bt240.2.1 = bt245.2.1 then (if bt240.2.2 = bt245.2.2 then ((leb_ReadBytes.f k2 (rd_L2 y224 x108_2) (wrap64 (a1))).bind fun bt250 => ((repriseref1_ReadBytes.f k2 (rd_L2 y224 x108_2) (wrap64 (a1))).bind fun bt255 => (if (strOfNums bt250.1).toList = (strOfNums bt255.1).toList then (if bt250.2.1 = bt255.2.1 then (if bt250.2.2 = bt255.2.2 then (repriselaw1_LebTells.l0 k2 a1 l2 a3 y224 (y224.length : Int) (wrap64 (x108_2 + 1))) else (none)) else (none)) else (none)))) else (none)) else (none)) else (none)) else (none)) else (none)) else (none)))) = some r := H
                    have A89 := Aside0.mk A890
                    clear A890
                    replace H := Option.bind_eq_some_iff.mp H
                    obtain ⟨⟨t240, t241, t242⟩, A900, H⟩ := H
                    replace H : ((repriseref1_ReadBytes.f k2 (rd_L2 y224 x108_2) a3).bind fun bt245 => (if t234 = t237 then (if t235 = t238 then (if t236 = t239 then (if (strOfNums t240).toList = (strOfNums bt245.1).toList then (if t241 = bt245.2.1 then (if t242 = bt245.2.2 then ((leb_ReadBytes.f k2 (rd_L2 y224 x108_2) (wrap64 (a1))).bind fun bt250 => ((repriseref1_ReadBytes.f k2 (rd_L2 y224 x108_2) (wrap64 (a1))).bind fun bt255 => (if (strOfNums bt250.1).toList = (strOfNums bt255.1).toList then (if bt250.2.1 = bt255.2.1 then (if bt250.2.2 = bt255.2.2 then (repriselaw1_LebTells.l0 k2 a1 l2 a3 y224 (y224.length : Int) (wrap64 (x108_2 + 1))) else (none)) else (none)) else (none)))) else (none)) else (none)) else (none)) else (none)) else (none)) else (none))) = some r := H
                    have A90 := Aside0.mk A900
                    clear A900
                    replace H := Option.bind_eq_some_iff.mp H
                    obtain ⟨⟨t245, t248, t249⟩, A910, H⟩ := H
                    replace H : (if t234 = t237 then (if t235 = t238 then (if t236 = t239 then (if (strOfNums t240).toList = (strOfNums t245).toList then (if t241 = t248 then (if t242 = t249 then ((leb_ReadBytes.f k2 (rd_L2 y224 x108_2) (wrap64 (a1))).bind fun bt250 => ((repriseref1_ReadBytes.f k2 (rd_L2 y224 x108_2) (wrap64 (a1))).bind fun bt255 => (if (strOfNums bt250.1).toList = (strOfNums bt255.1).toList then (if bt250.2.1 = bt255.2.1 then (if bt250.2.2 = bt255.2.2 then (repriselaw1_LebTells.l0 k2 a1 l2 a3 y224 (y224.length : Int) (wrap64 (x108_2 + 1))) else (none)) else (none)) else (none)))) else (none)) else (none)) else (none)) else (none)) else (none)) else (none)) = some r := H
                    have A91 := Aside0.mk A910
                    clear A910
                    by_cases c92 : t234 = t237
                    ·rw [if_pos c92] at H
                     have c92b0 : (t234 == t237) = true := beq_iff_eq.mpr c92
                     have c92b1 : (t234 != t237) = false := bne_eq_false_iff_eq.mpr c92
                     clear c92
                     by_cases c93 : t235 = t238
                     ·rw [if_pos c93] at H
                      have c93b0 : (t235 == t238) = true := beq_iff_eq.mpr c93
                      have c93b1 : (t235 != t238) = false := bne_eq_false_iff_eq.mpr c93
                      clear c93
                      by_cases c94 : t236 = t239
                      ·rw [if_pos c94] at H
                       have c94b0 : (t236 == t239) = true := beq_iff_eq.mpr c94
                       have c94b1 : (t236 != t239) = false := bne_eq_false_iff_eq.mpr c94
                       clear c94
                       by_cases c95 : (strOfNums t240).toList = (strOfNums t245).toList
                       ·rw [if_pos c95] at H
                        have c95b0 : ((strOfNums t240).toList == (strOfNums t245).toList) = true := beq_iff_eq.mpr c95
                        have c95b1 : ((strOfNums t240).toList != (strOfNums t245).toList) = false := bne_eq_false_iff_eq.mpr c95
                        clear c95
                        by_cases c96 : t241 = t248
                        ·rw [if_pos c96] at H
                         have c96b0 : (t241 == t248) = true := beq_iff_eq.mpr c96
                         have c96b1 : (t241 != t248) = false := bne_eq_false_iff_eq.mpr c96
                         clear c96
                         by_cases c97 : t242 = t249
                         ·rw [if_pos c97] at H
                          have c97b0 : (t242 == t249) = true := beq_iff_eq.mpr c97
                          have c97b1 : (t242 != t249) = false := bne_eq_false_iff_eq.mpr c97
                          clear c97
                          replace H := Option.bind_eq_some_iff.mp H
                          obtain ⟨⟨t250, t251, t252⟩, A980, H⟩ := H
                          replace H : ((repriseref1_ReadBytes.f k2 (rd_L2 y224 x108_2) (wrap64 (a1))).bind fun bt255 => (if (strOfNums t250).toList = (strOfNums bt255.1).toList then (if t251 = bt255.2.1 then (if t252 = bt255.2.2 then (repriselaw1_LebTells.l0 k2 a1 l2 a3 y224 (y224.length : Int) (wrap64 (x108_2 + 1))) else (none)) else (none)) else (none))) = some r := H
                          have A98 := Aside0.mk A980
                          clear A980
                          replace H := Option.bind_eq_some_iff.mp H
                          obtain ⟨⟨t255, t258, t259⟩, A990, H⟩ := H
                          replace H : (if (strOfNums t250).toList = (strOfNums t255).toList then (if t251 = t258 then (if t252 = t259 then (repriselaw1_LebTells.l0 k2 a1 l2 a3 y224 (y224.length : Int) (wrap64 (x108_2 + 1))) else (none)) else (none)) else (none)) = some r := H
                          have A99 := Aside0.mk A990
                          clear A990
                          by_cases c100 : (strOfNums t250).toList = (strOfNums t255).toList
                          ·rw [if_pos c100] at H
                           have c100b0 : ((strOfNums t250).toList == (strOfNums t255).toList) = true := beq_iff_eq.mpr c100
                           have c100b1 : ((strOfNums t250).toList != (strOfNums t255).toList) = false := bne_eq_false_iff_eq.mpr c100
                           clear c100
                           by_cases c101 : t251 = t258
                           ·rw [if_pos c101] at H
                            have c101b0 : (t251 == t258) = true := beq_iff_eq.mpr c101
                            have c101b1 : (t251 != t258) = false := bne_eq_false_iff_eq.mpr c101
                            clear c101
                            by_cases c102 : t252 = t259
                            ·rw [if_pos c102] at H
                             have c102b0 : (t252 == t259) = true := beq_iff_eq.mpr c102
                             have c102b1 : (t252 != t259) = false := bne_eq_false_iff_eq.mpr c102
                             clear c102
                             have H' := Aside0.mk H
                             clear H
                             have p233 : 0 ≤ (x108_2 : Int) := of_decide_eq_true (by first | (with_reducible assumption) | assumption)
                             have q233 : x108_2 < (y224.length : Int) := of_decide_eq_true (by first | (with_reducible assumption) | assumption)
                             obtain ⟨ad233, A233_0, c233_0, e233, hx233_0, hl233_0, hi233_0⟩ := at_L2 (Kd.N_reads' HO_106.out).2.2 x108_2 p233 q233
                             cases e233
                             obtain ⟨ce233, hce233, hMe233, hcc233⟩ := Kd.N_get HO_106.out [] x108_2 p233 (by first | exact q233 | exact of_decide_eq_true (by first | (with_reducible assumption) | assumption) | (have e_ := (Kd.N_reads' HO_106.out).1; omega))
                             obtain ⟨ua233_0, uc233_0, rfl, ul233_0, ge233_0⟩ := Kd.FK_slice_open hMe233
                             have hv233_0 := hcc233 0 _ rfl
                             rw [Nat.add_zero, show ((Kd.slice 5 (Kd.int .u8))).sz = 1 from rfl, Nat.mul_one] at hv233_0
                             replace hv233_0 := Option.some.inj (hv233_0.symm.trans hx233_0)
                             injection hv233_0 with hva_ hvn_ hvc_
                             rw [hva_] at ge233_0
                             rw [hvc_] at ul233_0
                             have HL233_0 := Aside0.mk (show Kd.V (Kd.int .u8) 5 _ w.heap.size _ _ (rd_L2 y224 x108_2) from Kd.V_mk ul233_0 ge233_0)
                             clear hva_ hvn_ hvc_ ge233_0 ul233_0
                             clear hcc233 hce233
                             have HR233_0 := Aside0.mk hi233_0
                             have HC233_0 := Aside0.mk hl233_0
                             clear hi233_0 hl233_0
                             replace p233 := eq_true p233
                             replace q233 := eq_true q233
                             go_wp2_with (first | ((with_reducible refine gate_callee (f := 12) rfl ?_); refine goesL_ (some 114) rfl rfl Try.func12 (by kernel_rfl) rfl #[.slice A233_0 (rd_L2 y224 x108_2).length c233_0] rfl (by (try simp only [List.map_toArray, List.map_cons, List.map_nil]); first | done | rfl | (simp only [List.length_drop, List.length_take]; rfl)) ?_; (with_reducible refine (leb_Read.calls k2 _ _ (rd_L2 y224 x108_2) t234 t235 t236 _ ?side1 ?side2 A88.out).mono ?_); (case side1 => repeat (first | exact (by repeat (first | (with_reducible exact HR233_0.out) | (with_reducible refine Kd.C_alloc ?_ _) | (with_reducible refine Kd.C_drewN ?_ _) | (with_reducible refine Kd.C_drew ?_) | exact HR233_0.out)) | (with_reducible refine Kd.C_alloc ?_ _) | (with_reducible refine Kd.C_drewN ?_ _) | (with_reducible refine Kd.C_drew ?_))); (case side2 => exact HC233_0.out); rintro e w' ⟨rfl, ⟨nd, rfl⟩⟩; refine ⟨_, rfl, ?_⟩) | ((with_reducible refine gate_callee (f := 13) rfl ?_); refine goesL_ (some 120) rfl rfl Try.func13 (by kernel_rfl) rfl #[.slice A233_0 (rd_L2 y224 x108_2).length c233_0] rfl (by (try simp only [List.map_toArray, List.map_cons, List.map_nil]); first | done | rfl | (simp only [List.length_drop, List.length_take]; rfl)) ?_; (with_reducible refine (repriseref1_Read.calls k2 _ _ (rd_L2 y224 x108_2) t237 t238 t239 _ ?side1 ?side2 A89.out).mono ?_); (case side1 => repeat (first | exact (by repeat (first | (with_reducible exact HR233_0.out) | (with_reducible refine Kd.C_alloc ?_ _) | (with_reducible refine Kd.C_drewN ?_ _) | (with_reducible refine Kd.C_drew ?_) | exact HR233_0.out)) | (with_reducible refine Kd.C_alloc ?_ _) | (with_reducible refine Kd.C_drewN ?_ _) | (with_reducible refine Kd.C_drew ?_))); (case side2 => exact HC233_0.out); rintro e w' ⟨rfl, ⟨nd, rfl⟩⟩; refine ⟨_, rfl, ?_⟩) | ((with_reducible refine gate_callee (f := 14) rfl ?_); refine goesL_ (some 127) rfl rfl Try.func14 (by kernel_rfl) rfl #[.slice A233_0 (rd_L2 y224 x108_2).length c233_0, .int .i64 a3] rfl (by (try simp only [List.map_toArray, List.map_cons, List.map_nil]); first | done | rfl | (simp only [List.length_drop, List.length_take]; rfl)) ?_; (with_reducible refine (leb_ReadBytes.calls k2 _ _ (rd_L2 y224 x108_2) a3 t240 t241 t242 _ ?side1 ?side2 A90.out).mono ?_); (case side1 => repeat (first | exact (by repeat (first | (with_reducible exact HR233_0.out) | (with_reducible refine Kd.C_alloc ?_ _) | (with_reducible refine Kd.C_drewN ?_ _) | (with_reducible refine Kd.C_drew ?_) | exact HR233_0.out)) | (with_reducible refine Kd.C_alloc ?_ _) | (with_reducible refine Kd.C_drewN ?_ _) | (with_reducible refine Kd.C_drew ?_))); (case side2 => exact HC233_0.out); rintro e w103 ⟨v243, rfl, ho0, hb⟩; refine ⟨_, rfl, ?_⟩; have n0_ := Aside0.mk (Kd.V_elder' (by (with_reducible repeat (first | apply Kd.V_alloc | apply Kd.V_drewN | apply Kd.V_drew)); exact HO_2.out) (Kd.R_base ho0) hb); have n1_ := Aside0.mk (Kd.N_elder' (by (with_reducible repeat (first | apply Kd.N_alloc | apply Kd.N_drewN | apply Kd.N_drew)); exact HO_106.out) (Kd.R_base ho0) hb); have n2_ := Aside0.mk (Kd.V_elder' (by (with_reducible repeat (first | apply Kd.V_alloc | apply Kd.V_drewN | apply Kd.V_drew)); exact HL233_0.out) (Kd.R_base ho0) hb); have n3_ := Aside0.mk (Kd.R_lower (Kd.R_newM (M := fun k_ => (w.heap.size ≤ k_)) ho0 (below_size (by repeat (first | (with_reducible first | exact HB.out | apply below_alloc | apply pw_below_drewN | apply below_drew1) | exact HB.out))) (fun k_ h_ => h_)) (below_size (by repeat (first | (with_reducible first | exact HB.out | apply below_alloc | apply pw_below_drewN | apply below_drew1) | exact HB.out)))); have n4_ := Aside0.mk (Kd.C_below (by repeat (first | (with_reducible exact HR233_0.out) | (with_reducible refine Kd.C_alloc ?_ _) | (with_reducible refine Kd.C_drewN ?_ _) | (with_reducible refine Kd.C_drew ?_) | exact HR233_0.out)) hb); have n5_ := Aside0.mk (below_step (by repeat (first | (with_reducible first | exact HB.out | apply below_alloc | apply pw_below_drewN | apply below_drew1) | exact HB.out)) hb); clear HO_2; clear HO_106; clear HL233_0; clear HR233_0; clear HB; have HO_2 := n0_; have HO_106 := n1_; have HL233_0 := n2_; have HO244 := n3_; have HR233_0 := n4_; have HB := n5_; clear n0_ n1_ n2_ n3_ n4_ n5_; (try clear hb); (try clear hb2); (try clear hk); (try clear hi); (try clear ho0)) | ((with_reducible refine gate_callee (f := 15) rfl ?_); refine goesL_ (some 134) rfl rfl Try.func15 (by kernel_rfl) rfl #[.slice A233_0 (rd_L2 y224 x108_2).length c233_0, .int .i64 a3] rfl (by (try simp only [List.map_toArray, List.map_cons, List.map_nil]); first | done | rfl | (simp only [List.length_drop, List.length_take]; rfl)) ?_; (with_reducible refine (repriseref1_ReadBytes.calls k2 (fun k_ => (((P2_ k_ ∨ w.heap.size ≤ k_) ∧ some k_ ≠ (.slice (some ad233) y224.length co84 : Value).ownBlock) ∧ some k_ ≠ (v243 : Value).ownBlock)) _ _ (rd_L2 y224 x108_2) a3 t245 t248 t249 _ ?side1 A91.out).mono ?_); (case side1 => exact HL233_0.out); rintro e w104 ⟨v246, rfl, ho0, hb⟩; refine ⟨_, rfl, ?_⟩; have n0_ := Aside0.mk (Kd.V_below (by (with_reducible repeat (first | apply Kd.V_alloc | apply Kd.V_drewN | apply Kd.V_drew)); exact HO_2.out) hb); have n1_ := Aside0.mk (Kd.N_below (by (with_reducible repeat (first | apply Kd.N_alloc | apply Kd.N_drewN | apply Kd.N_drew)); exact HO_106.out) hb); have n2_ := Aside0.mk (Kd.V_below (by (with_reducible repeat (first | apply Kd.V_alloc | apply Kd.V_drewN | apply Kd.V_drew)); exact HL233_0.out) hb); have n3_ := Aside0.mk (Kd.R_below (by (with_reducible repeat (first | apply Kd.R_alloc | apply Kd.R_drewN | apply Kd.R_drew)); exact HO244.out) hb); have n4_ := Aside0.mk (Kd.V_lower (Kd.V_mono (ok' := fun k_ => (P2_ k_ ∨ w.heap.size ≤ k_) ∧ some k_ ≠ (.slice (some ad233) y224.length co84 : Value).ownBlock ∧ some k_ ≠ (v243 : Value).ownBlock) ho0 (fun k_ hk_ => ⟨Or.elim hk_ (fun hs_ => hs_.1.1) (fun hn_ => (.inr (Nat.le_trans (below_size (by repeat (first | (with_reducible first | exact HB.out | apply below_alloc | apply pw_below_drewN | apply below_drew1) | exact HB.out))) hn_))), Or.elim hk_ (fun hs_ => hs_.1.2) (fun hn_ => (Kd.fresh' (Kd.N_lt (by (with_reducible repeat (first | apply Kd.N_alloc | apply Kd.N_drewN | apply Kd.N_drew)); exact HO_106.out)) k_ hn_)), Or.elim hk_ (fun hs_ => hs_.2) (fun hn_ => (Kd.fresh' (Kd.R_lt (by (with_reducible repeat (first | apply Kd.R_alloc | apply Kd.R_drewN | apply Kd.R_drew)); exact HO244.out)) k_ hn_))⟩)) (below_size (by repeat (first | (with_reducible first | exact HB.out | apply below_alloc | apply pw_below_drewN | apply below_drew1) | exact HB.out)))); have n5_ := Aside0.mk (Kd.C_below (by repeat (first | (with_reducible exact HR233_0.out) | (with_reducible refine Kd.C_alloc ?_ _) | (with_reducible refine Kd.C_drewN ?_ _) | (with_reducible refine Kd.C_drew ?_) | exact HR233_0.out)) hb); have n6_ := Aside0.mk (below_step (by repeat (first | (with_reducible first | exact HB.out | apply below_alloc | apply pw_below_drewN | apply below_drew1) | exact HB.out)) hb); clear HO_2; clear HO_106; clear HL233_0; clear HO244; clear HR233_0; clear HB; have HO_2 := n0_; have HO_106 := n1_; have HL233_0 := n2_; have HO244 := n3_; have HO247 := n4_; have HR233_0 := n5_; have HB := n6_; clear n0_ n1_ n2_ n3_ n4_ n5_ n6_; (try clear hb); (try clear hb2); (try clear hk); (try clear hi); (try clear ho0); have hcv105 := own_string (P := Try.prog) Try.underlying23 Try.underlying5 Try.underlying9 (Kd.own_of_R HO244.out); have hcv106 := V_string (P := Try.prog) Try.underlying23 Try.underlying5 Try.underlying9 HO247.out) | ((with_reducible refine gate_callee (f := 14) rfl ?_); refine goesL_ (some 172) rfl rfl Try.func14 (by kernel_rfl) rfl #[.slice A233_0 (rd_L2 y224 x108_2).length c233_0, .int .i64 (wrap64 (a1))] rfl (by (try simp only [List.map_toArray, List.map_cons, List.map_nil]); first | done | rfl | (simp only [List.length_drop, List.length_take]; rfl)) ?_; (with_reducible refine (leb_ReadBytes.calls k2 _ _ (rd_L2 y224 x108_2) (wrap64 (a1)) t250 t251 t252 _ ?side1 ?side2 A98.out).mono ?_); (case side1 => repeat (first | exact (by repeat (first | (with_reducible exact HR233_0.out) | (with_reducible refine Kd.C_alloc ?_ _) | (with_reducible refine Kd.C_drewN ?_ _) | (with_reducible refine Kd.C_drew ?_) | exact HR233_0.out)) | (with_reducible refine Kd.C_alloc ?_ _) | (with_reducible refine Kd.C_drewN ?_ _) | (with_reducible refine Kd.C_drew ?_))); (case side2 => exact HC233_0.out); rintro e w107 ⟨v253, rfl, ho0, hb⟩; refine ⟨_, rfl, ?_⟩; have n0_ := Aside0.mk (Kd.V_elder' (by (with_reducible repeat (first | apply Kd.V_alloc | apply Kd.V_drewN | apply Kd.V_drew)); exact HO_2.out) (Kd.R_base ho0) hb); have n1_ := Aside0.mk (Kd.N_elder' (by (with_reducible repeat (first | apply Kd.N_alloc | apply Kd.N_drewN | apply Kd.N_drew)); exact HO_106.out) (Kd.R_base ho0) hb); have n2_ := Aside0.mk (Kd.V_elder' (by (with_reducible repeat (first | apply Kd.V_alloc | apply Kd.V_drewN | apply Kd.V_drew)); exact HL233_0.out) (Kd.R_base ho0) hb); have n3_ := Aside0.mk (Kd.R_elder' (by (with_reducible repeat (first | apply Kd.R_alloc | apply Kd.R_drewN | apply Kd.R_drew)); exact HO244.out) (Kd.R_base ho0) hb); have n4_ := Aside0.mk (Kd.V_elder' (by (with_reducible repeat (first | apply Kd.V_alloc | apply Kd.V_drewN | apply Kd.V_drew)); exact HO247.out) (Kd.R_base ho0) hb); have n5_ := Aside0.mk (Kd.R_lower (Kd.R_new' (Kd.R_newM (M := fun k_ => (w.heap.size ≤ k_)) ho0 (below_size (by repeat (first | (with_reducible first | exact HB.out | apply below_alloc | apply pw_below_drewN | apply below_drew1) | exact HB.out))) (fun k_ h_ => h_)) (Kd.R_lt (by (with_reducible repeat (first | apply Kd.R_alloc | apply Kd.R_drewN | apply Kd.R_drew)); exact HO244.out))) (below_size (by repeat (first | (with_reducible first | exact HB.out | apply below_alloc | apply pw_below_drewN | apply below_drew1) | exact HB.out)))); have n6_ := Aside0.mk (Kd.C_below (by repeat (first | (with_reducible exact HR233_0.out) | (with_reducible refine Kd.C_alloc ?_ _) | (with_reducible refine Kd.C_drewN ?_ _) | (with_reducible refine Kd.C_drew ?_) | exact HR233_0.out)) hb); have n7_ := Aside0.mk (below_step (by repeat (first | (with_reducible first | exact HB.out | apply below_alloc | apply pw_below_drewN | apply below_drew1) | exact HB.out)) hb); clear HO_2; clear HO_106; clear HL233_0; clear HO244; clear HO247; clear HR233_0; clear HB; have HO_2 := n0_; have HO_106 := n1_; have HL233_0 := n2_; have HO244 := n3_; have HO247 := n4_; have HO254 := n5_; have HR233_0 := n6_; have HB := n7_; clear n0_ n1_ n2_ n3_ n4_ n5_ n6_ n7_; (try clear hb); (try clear hb2); (try clear hk); (try clear hi); (try clear ho0)) | ((with_reducible refine gate_callee (f := 15) rfl ?_); refine goesL_ (some 180) rfl rfl Try.func15 (by kernel_rfl) rfl #[.slice A233_0 (rd_L2 y224 x108_2).length c233_0, .int .i64 (wrap64 (a1))] rfl (by (try simp only [List.map_toArray, List.map_cons, List.map_nil]); first | done | rfl | (simp only [List.length_drop, List.length_take]; rfl)) ?_; (with_reducible refine (repriseref1_ReadBytes.calls k2 (fun k_ => ((((P2_ k_ ∨ w.heap.size ≤ k_) ∧ some k_ ≠ (.slice (some ad233) y224.length co84 : Value).ownBlock) ∧ some k_ ≠ (v243 : Value).ownBlock) ∧ some k_ ≠ (v253 : Value).ownBlock)) _ _ (rd_L2 y224 x108_2) (wrap64 (a1)) t255 t258 t259 _ ?side1 A99.out).mono ?_); (case side1 => exact HL233_0.out); rintro e w108 ⟨v256, rfl, ho0, hb⟩; refine ⟨_, rfl, ?_⟩; have n0_ := Aside0.mk (Kd.V_below (by (with_reducible repeat (first | apply Kd.V_alloc | apply Kd.V_drewN | apply Kd.V_drew)); exact HO_2.out) hb); have n1_ := Aside0.mk (Kd.N_below (by (with_reducible repeat (first | apply Kd.N_alloc | apply Kd.N_drewN | apply Kd.N_drew)); exact HO_106.out) hb); have n2_ := Aside0.mk (Kd.V_below (by (with_reducible repeat (first | apply Kd.V_alloc | apply Kd.V_drewN | apply Kd.V_drew)); exact HL233_0.out) hb); have n3_ := Aside0.mk (Kd.R_below (by (with_reducible repeat (first | apply Kd.R_alloc | apply Kd.R_drewN | apply Kd.R_drew)); exact HO244.out) hb); have n4_ := Aside0.mk (Kd.V_below (by (with_reducible repeat (first | apply Kd.V_alloc | apply Kd.V_drewN | apply Kd.V_drew)); exact HO247.out) hb); have n5_ := Aside0.mk (Kd.R_below (by (with_reducible repeat (first | apply Kd.R_alloc | apply Kd.R_drewN | apply Kd.R_drew)); exact HO254.out) hb); have n6_ := Aside0.mk (Kd.V_lower (Kd.V_mono (ok' := fun k_ => (P2_ k_ ∨ w.heap.size ≤ k_) ∧ some k_ ≠ (.slice (some ad233) y224.length co84 : Value).ownBlock ∧ some k_ ≠ (v243 : Value).ownBlock ∧ some k_ ≠ (v253 : Value).ownBlock) ho0 (fun k_ hk_ => ⟨Or.elim hk_ (fun hs_ => hs_.1.1.1) (fun hn_ => (.inr (Nat.le_trans (below_size (by repeat (first | (with_reducible first | exact HB.out | apply below_alloc | apply pw_below_drewN | apply below_drew1) | exact HB.out))) hn_))), Or.elim hk_ (fun hs_ => hs_.1.1.2) (fun hn_ => (Kd.fresh' (Kd.N_lt (by (with_reducible repeat (first | apply Kd.N_alloc | apply Kd.N_drewN | apply Kd.N_drew)); exact HO_106.out)) k_ hn_)), Or.elim hk_ (fun hs_ => hs_.1.2) (fun hn_ => (Kd.fresh' (Kd.R_lt (by (with_reducible repeat (first | apply Kd.R_alloc | apply Kd.R_drewN | apply Kd.R_drew)); exact HO244.out)) k_ hn_)), Or.elim hk_ (fun hs_ => hs_.2) (fun hn_ => (Kd.fresh' (Kd.R_lt (by (with_reducible repeat (first | apply Kd.R_alloc | apply Kd.R_drewN | apply Kd.R_drew)); exact HO254.out)) k_ hn_))⟩)) (below_size (by repeat (first | (with_reducible first | exact HB.out | apply below_alloc | apply pw_below_drewN | apply below_drew1) | exact HB.out)))); have n7_ := Aside0.mk (Kd.C_below (by repeat (first | (with_reducible exact HR233_0.out) | (with_reducible refine Kd.C_alloc ?_ _) | (with_reducible refine Kd.C_drewN ?_ _) | (with_reducible refine Kd.C_drew ?_) | exact HR233_0.out)) hb); have n8_ := Aside0.mk (below_step (by repeat (first | (with_reducible first | exact HB.out | apply below_alloc | apply pw_below_drewN | apply below_drew1) | exact HB.out)) hb); clear HO_2; clear HO_106; clear HL233_0; clear HO244; clear HO247; clear HO254; clear HR233_0; clear HB; have HO_2 := n0_; have HO_106 := n1_; have HL233_0 := n2_; have HO244 := n3_; have HO247 := n4_; have HO254 := n5_; have HO257 := n6_; have HR233_0 := n7_; have HB := n8_; clear n0_ n1_ n2_ n3_ n4_ n5_ n6_ n7_ n8_; (try clear hb); (try clear hb2); (try clear hk); (try clear hi); (try clear ho0); have hcv109 := own_string (P := Try.prog) Try.underlying23 Try.underlying5 Try.underlying9 (Kd.own_of_R HO254.out); have hcv110 := V_string (P := Try.prog) Try.underlying23 Try.underlying5 Try.underlying9 HO257.out))
                             go_roundg k2
                             case measure => have := HJ10.out; have := HK2.out; omega
                             case rel => exact ⟨(wrap64 (x108_2 + 1)), (by first | rfl | (simp; done) | (simp [*]; done)), H', ⟨by have := HJ10.out; have := HK2.out; omega⟩, ⟨by (with_reducible repeat (first | apply Kd.V_alloc | apply Kd.V_drewN | apply Kd.V_drew)); exact Kd.V_mono HO_2.out (fun _ hk => by first | exact ⟨hk.1.1.1, hk.1.1.2⟩ | exact hk | exact hk.1 | exact hk.1.1 | exact hk.1.1.1 | exact hk.2)⟩, ⟨by (with_reducible repeat (first | apply Kd.N_alloc | apply Kd.N_drewN | apply Kd.N_drew)); exact Kd.N_mono HO_106.out (fun _ hk => by first | exact hk.1.1 | exact hk | exact hk.1 | exact hk.1.1 | exact hk.1.1.1 | exact hk.2)⟩, ⟨by repeat (first | (with_reducible first | exact HB.out | apply below_alloc | apply pw_below_drewN | apply below_drew1) | exact HB.out)⟩⟩
                            ·rw [if_neg c102] at H
                             exact absurd H (by simp)
                           ·rw [if_neg c101] at H
                            exact absurd H (by simp)
                          ·rw [if_neg c100] at H
                           exact absurd H (by simp)
                         ·rw [if_neg c97] at H
                          exact absurd H (by simp)
                        ·rw [if_neg c96] at H
                         exact absurd H (by simp)
                       ·rw [if_neg c95] at H
                        exact absurd H (by simp)
                      ·rw [if_neg c94] at H
                       exact absurd H (by simp)
                     ·rw [if_neg c93] at H
                      exact absurd H (by simp)
                    ·rw [if_neg c92] at H
                     exact absurd H (by simp)
                   ·rw [if_neg c87] at H
                    exact absurd H (by simp)
                  ·rw [if_neg c86] at H
                   exact absurd H (by simp)
                 ·rw [if_neg c85] at H
                  have c85b0 : decide (x108_2 < (y224.length : Int)) = false := decide_eq_false c85
                  clear c85
                  replace H := Option.bind_eq_some_iff.mp H
                  obtain ⟨t227, A1110, H⟩ := H
                  replace H : ((repriseref1_PutBytes.f k2 l2).bind fun t230 => (some ((strOfNums t227).toList == (strOfNums t230).toList))) = some r := H
                  have A111 := Aside0.mk A1110
                  clear A1110
                  replace H := Option.bind_eq_some_iff.mp H
                  obtain ⟨t230, A1120, H⟩ := H
                  replace H : (some ((strOfNums t227).toList == (strOfNums t230).toList)) = some r := H
                  have A112 := Aside0.mk A1120
                  clear A1120
                  obtain rfl := Option.some.inj H
                  try go_wp2
                  have n0_ := Aside0.mk (Kd.V_drew HO_2.out)
                  have n1_ := Aside0.mk (Kd.N_drew HO_106.out)
                  have n2_ := Aside0.mk (below_drew1 HB.out)
                  clear HO_2
                  clear HO_106
                  clear HB
                  have HO_2 := n0_
                  have HO_106 := n1_
                  have HB := n2_
                  clear n0_ n1_ n2_
                  refine start_ (n := 8) (S := fun w' => True) (ds := []) #[O,O,O,O,O,O,O,O] (by kernel_rfl) rfl rfl trivial (fun hHeld => ?_); refine with_tabW repriselaw1_LebTells.tab24 repriselaw1_LebTells.bits24 (fun HT_ HW_ => ?_)
                  generalize wr.drew = w113 at HO_2 HO_106 HB hHeld ⊢
                  refine pure_ (i := 0) (N := some 200) (v := ?_) (a' := ?_) #[I,O,O,O,O,O,O,O] rfl rfl (any_of HT_.out (by kernel_rfl)) (fun _ _ _ h => h) (Or.inl ⟨by rfl, ?_⟩) ?_ ?_
                  rotate_left
                  ·intro w'
                   go_simp
                   with_reducible rfl
                  rotate_left
                  ·simp only [Act.put,q1,q2,q3,i64_w,i32_w]
                   rfl
                  refine pure_ (i := 3) (N := some 203) (v := ?_) (a' := ?_) #[I,O,O,I,O,O,O,O] rfl rfl (any_of HT_.out (by kernel_rfl)) (fun _ _ _ h => h) (Or.inl ⟨by rfl, ?_⟩) ?_ ?_
                  rotate_left
                  ·intro w'
                   go_simp
                   with_reducible rfl
                  rotate_left
                  ·simp only [Act.put,q1,q2,q3,i64_w,i32_w]
                   rfl
                  refine one_ (i := 1) (N := some 201) #[I,I,O,I,O,O,O,O] rfl rfl (one_of HT_.out (by kernel_rfl)) (by decide) (fun K hK => ?_)
                  refine goes_ Try.func16 (by kernel_rfl) rfl #[.slice A2 l2.length c2] (by rfl) rfl rfl (by (try simp only [List.map_toArray, List.map_cons, List.map_nil]); first | done | rfl | (simp only [List.length_drop, List.length_take]; rfl)) ?_
                  with_reducible refine (leb_PutBytes.calls k2 _ _ l2 t227 _ ?side1 ?side2 A111.out).mono ?_
                  (case side1 => repeat (first | exact (Kd.V_reads' HO_2.out).2.2 | (with_reducible refine Kd.C_alloc ?_ _) | (with_reducible refine Kd.C_drewN ?_ _) | (with_reducible refine Kd.C_drew ?_)))
                  (case side2 => exact (Kd.V_reads' HO_2.out).2.1)
                  rintro e w114 ⟨v228, rfl, ho0, hb⟩
                  refine ⟨_, rfl, ?_⟩
                  have n0_ := Aside0.mk (Kd.V_elder' (by (with_reducible repeat (first | apply Kd.V_alloc | apply Kd.V_drewN | apply Kd.V_drew)); exact HO_2.out) (Kd.R_base ho0) hb)
                  have n1_ := Aside0.mk (Kd.N_elder' (by (with_reducible repeat (first | apply Kd.N_alloc | apply Kd.N_drewN | apply Kd.N_drew)); exact HO_106.out) (Kd.R_base ho0) hb)
                  have n2_ := Aside0.mk (Kd.R_lower (Kd.R_newM (M := fun k_ => (w.heap.size ≤ k_)) ho0 (below_size (by repeat (first | (with_reducible first | exact HB.out | apply below_alloc | apply pw_below_drewN | apply below_drew1) | exact HB.out))) (fun k_ h_ => h_)) (below_size (by repeat (first | (with_reducible first | exact HB.out | apply below_alloc | apply pw_below_drewN | apply below_drew1) | exact HB.out))))
                  have n3_ := Aside0.mk (below_step (by repeat (first | (with_reducible first | exact HB.out | apply below_alloc | apply pw_below_drewN | apply below_drew1) | exact HB.out)) hb)
                  clear HO_2
                  clear HO_106
                  clear HB
                  have HO_2 := n0_
                  have HO_106 := n1_
                  have HO229 := n2_
                  have HB := n3_
                  clear n0_ n1_ n2_ n3_
                  (try clear hb)
                  (try clear hb2)
                  (try clear hk)
                  (try clear hi)
                  (try clear ho0)
                  refine hK.out _ _ trivial (fun hHeld => ?_)
                  clear hK K
                  refine norm_ (a' := ?_) ?_ ?_
                  rotate_left
                  ·show Act.put _ (some 201) _ = _
                   simp only [Act.put,q1,q2,q3,i64_w,i32_w]
                   rfl
                  refine join_ (σ := Value) 2 #[I,I,I,I,I,I,O,O] (fun s_ => [(202, .string (strOfNums t227)), (204, s_), (205, .string (strOfNums t230))]) (fun s_ w' => (Kd.R (Kd.int .u8) 5 w' w.heap.size (fun k_ => (w.heap.size ≤ k_) ∧ some k_ ≠ (s_ : Value).ownBlock) v228 t227) ∧ (Kd.R (Kd.int .u8) 5 w' w.heap.size (fun k_ => (w.heap.size ≤ k_) ∧ some k_ ≠ (v228 : Value).ownBlock) s_ t230) ∧ (Kd.N (Kd.slice 5 (Kd.int .u8)) 23 w' w.heap.size (fun k_ => (P2_ k_ ∨ w.heap.size ≤ k_) ∧ some k_ ≠ (v228 : Value).ownBlock ∧ some k_ ≠ (s_ : Value).ownBlock) (.slice Ao84 y224.length co84) y224) ∧ (Kd.V (Kd.int .u8) 5 w' w.heap.size (fun k_ => (P2_ k_ ∨ w.heap.size ≤ k_) ∧ some k_ ≠ (v228 : Value).ownBlock ∧ some k_ ≠ (s_ : Value).ownBlock ∧ some k_ ≠ (.slice Ao84 y224.length co84 : Value).ownBlock) (.slice A2 l2.length c2) l2) ∧ (Below w.heap.size w w')) ?_ ?_
                  rotate_left
                  ·intro hCont
                   refine two_ (i := 2) (j := 4) (Ni := some 202) (Nj := some 204) #[I,I,I,I,O,O,O,O] #[I,I,O,I,I,O,O,O] rfl rfl rfl rfl (two_of HT_.out (by kernel_rfl)) (by decide) (by decide) (fun K hK => ?_) (fun K hK => ?_)
                   ·skip
                    have hcv115 := own_string (P := Try.prog) Try.underlying23 Try.underlying5 Try.underlying9 (Kd.own_of_R HO229.out)
                    refine value_ (w1 := ?_) (v := ?_) (by rfl) rfl ?_ ?_
                    rotate_left 2
                    ·go_simp
                     constructor
                     ·rfl
                     ·rfl
                    clear hcv115
                    refine hK.out _ _ trivial (fun hHeld => ?_)
                    clear hK K
                    refine norm_ (a' := ?_) ?_ ?_
                    rotate_left
                    ·show Act.put _ (some 202) _ = _
                     simp only [Act.put,q1,q2,q3,i64_w,i32_w]
                     rfl
                    refine one_ (i := 4) (N := some 204) #[I,I,I,I,I,O,O,O] rfl rfl (one_of HT_.out (by kernel_rfl)) (by decide) (fun K hK => ?_)
                    refine goes_ Try.func17 (by kernel_rfl) rfl #[.slice A2 l2.length c2] (by rfl) rfl rfl (by (try simp only [List.map_toArray, List.map_cons, List.map_nil]); first | done | rfl | (simp only [List.length_drop, List.length_take]; rfl)) ?_
                    with_reducible refine (repriseref1_PutBytes.calls k2 _ _ l2 t230 _ ?side1 ?side2 A112.out).mono ?_
                    (case side1 => repeat (first | exact (Kd.V_reads' HO_2.out).2.2 | (with_reducible refine Kd.C_alloc ?_ _) | (with_reducible refine Kd.C_drewN ?_ _) | (with_reducible refine Kd.C_drew ?_)))
                    (case side2 => exact (Kd.V_reads' HO_2.out).2.1)
                    rintro e w116 ⟨v231, rfl, ho0, hb⟩
                    refine ⟨_, rfl, ?_⟩
                    have n0_ := Aside0.mk (Kd.V_elder' (by (with_reducible repeat (first | apply Kd.V_alloc | apply Kd.V_drewN | apply Kd.V_drew)); exact HO_2.out) (Kd.R_base ho0) hb)
                    have n1_ := Aside0.mk (Kd.N_elder' (by (with_reducible repeat (first | apply Kd.N_alloc | apply Kd.N_drewN | apply Kd.N_drew)); exact HO_106.out) (Kd.R_base ho0) hb)
                    have n2_ := Aside0.mk (Kd.R_elder' (by (with_reducible repeat (first | apply Kd.R_alloc | apply Kd.R_drewN | apply Kd.R_drew)); exact HO229.out) (Kd.R_base ho0) hb)
                    have n3_ := Aside0.mk (Kd.R_lower (Kd.R_new' (Kd.R_newM (M := fun k_ => (w.heap.size ≤ k_)) ho0 (below_size (by repeat (first | (with_reducible first | exact HB.out | apply below_alloc | apply pw_below_drewN | apply below_drew1) | exact HB.out))) (fun k_ h_ => h_)) (Kd.R_lt (by (with_reducible repeat (first | apply Kd.R_alloc | apply Kd.R_drewN | apply Kd.R_drew)); exact HO229.out))) (below_size (by repeat (first | (with_reducible first | exact HB.out | apply below_alloc | apply pw_below_drewN | apply below_drew1) | exact HB.out))))
                    have n4_ := Aside0.mk (below_step (by repeat (first | (with_reducible first | exact HB.out | apply below_alloc | apply pw_below_drewN | apply below_drew1) | exact HB.out)) hb)
                    clear HO_2
                    clear HO_106
                    clear HO229
                    clear HB
                    have HO_2 := n0_
                    have HO_106 := n1_
                    have HO229 := n2_
                    have HO232 := n3_
                    have HB := n4_
                    clear n0_ n1_ n2_ n3_ n4_
                    (try clear hb)
                    (try clear hb2)
                    (try clear hk)
                    (try clear hi)
                    (try clear ho0)
                    refine hK.out _ _ trivial (fun hHeld => ?_)
                    clear hK K
                    refine norm_ (a' := ?_) ?_ ?_
                    rotate_left
                    ·show Act.put _ (some 204) _ = _
                     simp only [Act.put,q1,q2,q3,i64_w,i32_w]
                     rfl
                    refine one_ (i := 5) (N := some 205) #[I,I,I,I,I,I,O,O] rfl rfl (one_of HT_.out (by kernel_rfl)) (by decide) (fun K hK => ?_)
                    have hcv117 := own_string (P := Try.prog) Try.underlying23 Try.underlying5 Try.underlying9 (Kd.own_of_R HO232.out)
                    refine value_ (w1 := ?_) (v := ?_) (by rfl) rfl ?_ ?_
                    rotate_left 2
                    ·go_simp
                     constructor
                     ·rfl
                     ·rfl
                    clear hcv117
                    refine hK.out _ _ trivial (fun hHeld => ?_)
                    clear hK K
                    refine norm_ (a' := ?_) ?_ ?_
                    rotate_left
                    ·show Act.put _ (some 205) _ = _
                     simp only [Act.put,q1,q2,q3,i64_w,i32_w]
                     rfl
                    exact norm_ (by simp only [putAll, Act.put, q1, q2, q3]) (hCont (v231) _ ⟨(by (with_reducible repeat (first | apply Kd.R_alloc | apply Kd.R_drewN | apply Kd.R_drew)); exact Kd.R_mono HO229.out (fun _ hk => ⟨hk.1.1, hk.2⟩)), (by (with_reducible repeat (first | apply Kd.R_alloc | apply Kd.R_drewN | apply Kd.R_drew)); exact Kd.R_mono HO232.out (fun _ hk => ⟨hk.1.1, hk.2⟩)), (by (with_reducible repeat (first | apply Kd.N_alloc | apply Kd.N_drewN | apply Kd.N_drew)); exact Kd.N_mono HO_106.out (fun _ hk => ⟨hk.1.1, ⟨hk.1.2, hk.2⟩⟩)), (by (with_reducible repeat (first | apply Kd.V_alloc | apply Kd.V_drewN | apply Kd.V_drew)); exact Kd.V_mono HO_2.out (fun _ hk => ⟨hk.1.1.1, ⟨hk.1.2, ⟨hk.2, hk.1.1.2⟩⟩⟩)), (by repeat (first | (with_reducible first | exact HB.out | apply below_alloc | apply pw_below_drewN | apply below_drew1) | exact HB.out))⟩)
                   ·skip
                    refine goes_ Try.func17 (by kernel_rfl) rfl #[.slice A2 l2.length c2] (by rfl) rfl rfl (by (try simp only [List.map_toArray, List.map_cons, List.map_nil]); first | done | rfl | (simp only [List.length_drop, List.length_take]; rfl)) ?_
                    with_reducible refine (repriseref1_PutBytes.calls k2 _ _ l2 t230 _ ?side1 ?side2 A112.out).mono ?_
                    (case side1 => repeat (first | exact (Kd.V_reads' HO_2.out).2.2 | (with_reducible refine Kd.C_alloc ?_ _) | (with_reducible refine Kd.C_drewN ?_ _) | (with_reducible refine Kd.C_drew ?_)))
                    (case side2 => exact (Kd.V_reads' HO_2.out).2.1)
                    rintro e w115 ⟨v231, rfl, ho0, hb⟩
                    refine ⟨_, rfl, ?_⟩
                    have n0_ := Aside0.mk (Kd.V_elder' (by (with_reducible repeat (first | apply Kd.V_alloc | apply Kd.V_drewN | apply Kd.V_drew)); exact HO_2.out) (Kd.R_base ho0) hb)
                    have n1_ := Aside0.mk (Kd.N_elder' (by (with_reducible repeat (first | apply Kd.N_alloc | apply Kd.N_drewN | apply Kd.N_drew)); exact HO_106.out) (Kd.R_base ho0) hb)
                    have n2_ := Aside0.mk (Kd.R_elder' (by (with_reducible repeat (first | apply Kd.R_alloc | apply Kd.R_drewN | apply Kd.R_drew)); exact HO229.out) (Kd.R_base ho0) hb)
                    have n3_ := Aside0.mk (Kd.R_lower (Kd.R_new' (Kd.R_newM (M := fun k_ => (w.heap.size ≤ k_)) ho0 (below_size (by repeat (first | (with_reducible first | exact HB.out | apply below_alloc | apply pw_below_drewN | apply below_drew1) | exact HB.out))) (fun k_ h_ => h_)) (Kd.R_lt (by (with_reducible repeat (first | apply Kd.R_alloc | apply Kd.R_drewN | apply Kd.R_drew)); exact HO229.out))) (below_size (by repeat (first | (with_reducible first | exact HB.out | apply below_alloc | apply pw_below_drewN | apply below_drew1) | exact HB.out))))
                    have n4_ := Aside0.mk (below_step (by repeat (first | (with_reducible first | exact HB.out | apply below_alloc | apply pw_below_drewN | apply below_drew1) | exact HB.out)) hb)
                    clear HO_2
                    clear HO_106
                    clear HO229
                    clear HB
                    have HO_2 := n0_
                    have HO_106 := n1_
                    have HO229 := n2_
                    have HO232 := n3_
                    have HB := n4_
                    clear n0_ n1_ n2_ n3_ n4_
                    (try clear hb)
                    (try clear hb2)
                    (try clear hk)
                    (try clear hi)
                    (try clear ho0)
                    refine hK.out _ _ trivial (fun hHeld => ?_)
                    clear hK K
                    refine norm_ (a' := ?_) ?_ ?_
                    rotate_left
                    ·show Act.put _ (some 204) _ = _
                     simp only [Act.put,q1,q2,q3,i64_w,i32_w]
                     rfl
                    refine two_ (i := 2) (j := 5) (Ni := some 202) (Nj := some 205) #[I,I,I,I,I,O,O,O] #[I,I,O,I,I,I,O,O] rfl rfl rfl rfl (two_of HT_.out (by kernel_rfl)) (by decide) (by decide) (fun K hK => ?_) (fun K hK => ?_)
                    ·skip
                     have hcv116 := own_string (P := Try.prog) Try.underlying23 Try.underlying5 Try.underlying9 (Kd.own_of_R HO229.out)
                     refine value_ (w1 := ?_) (v := ?_) (by rfl) rfl ?_ ?_
                     rotate_left 2
                     ·go_simp
                      constructor
                      ·rfl
                      ·rfl
                     clear hcv116
                     refine hK.out _ _ trivial (fun hHeld => ?_)
                     clear hK K
                     refine norm_ (a' := ?_) ?_ ?_
                     rotate_left
                     ·show Act.put _ (some 202) _ = _
                      simp only [Act.put,q1,q2,q3,i64_w,i32_w]
                      rfl
                     refine one_ (i := 5) (N := some 205) #[I,I,I,I,I,I,O,O] rfl rfl (one_of HT_.out (by kernel_rfl)) (by decide) (fun K hK => ?_)
                     have hcv117 := own_string (P := Try.prog) Try.underlying23 Try.underlying5 Try.underlying9 (Kd.own_of_R HO232.out)
                     refine value_ (w1 := ?_) (v := ?_) (by rfl) rfl ?_ ?_
                     rotate_left 2
                     ·go_simp
                      constructor
                      ·rfl
                      ·rfl
                     clear hcv117
                     refine hK.out _ _ trivial (fun hHeld => ?_)
                     clear hK K
                     refine norm_ (a' := ?_) ?_ ?_
                     rotate_left
                     ·show Act.put _ (some 205) _ = _
                      simp only [Act.put,q1,q2,q3,i64_w,i32_w]
                      rfl
                     exact norm_ (by simp only [putAll, Act.put, q1, q2, q3]) (hCont (v231) _ ⟨(by (with_reducible repeat (first | apply Kd.R_alloc | apply Kd.R_drewN | apply Kd.R_drew)); exact Kd.R_mono HO229.out (fun _ hk => ⟨hk.1.1, hk.2⟩)), (by (with_reducible repeat (first | apply Kd.R_alloc | apply Kd.R_drewN | apply Kd.R_drew)); exact Kd.R_mono HO232.out (fun _ hk => ⟨hk.1.1, hk.2⟩)), (by (with_reducible repeat (first | apply Kd.N_alloc | apply Kd.N_drewN | apply Kd.N_drew)); exact Kd.N_mono HO_106.out (fun _ hk => ⟨hk.1.1, ⟨hk.1.2, hk.2⟩⟩)), (by (with_reducible repeat (first | apply Kd.V_alloc | apply Kd.V_drewN | apply Kd.V_drew)); exact Kd.V_mono HO_2.out (fun _ hk => ⟨hk.1.1.1, ⟨hk.1.2, ⟨hk.2, hk.1.1.2⟩⟩⟩)), (by repeat (first | (with_reducible first | exact HB.out | apply below_alloc | apply pw_below_drewN | apply below_drew1) | exact HB.out))⟩)
                    ·skip
                     have hcv116 := own_string (P := Try.prog) Try.underlying23 Try.underlying5 Try.underlying9 (Kd.own_of_R HO232.out)
                     refine value_ (w1 := ?_) (v := ?_) (by rfl) rfl ?_ ?_
                     rotate_left 2
                     ·go_simp
                      constructor
                      ·rfl
                      ·rfl
                     clear hcv116
                     refine hK.out _ _ trivial (fun hHeld => ?_)
                     clear hK K
                     refine norm_ (a' := ?_) ?_ ?_
                     rotate_left
                     ·show Act.put _ (some 205) _ = _
                      simp only [Act.put,q1,q2,q3,i64_w,i32_w]
                      rfl
                     refine one_ (i := 2) (N := some 202) #[I,I,I,I,I,I,O,O] rfl rfl (one_of HT_.out (by kernel_rfl)) (by decide) (fun K hK => ?_)
                     have hcv117 := own_string (P := Try.prog) Try.underlying23 Try.underlying5 Try.underlying9 (Kd.own_of_R HO229.out)
                     refine value_ (w1 := ?_) (v := ?_) (by rfl) rfl ?_ ?_
                     rotate_left 2
                     ·go_simp
                      constructor
                      ·rfl
                      ·rfl
                     clear hcv117
                     refine hK.out _ _ trivial (fun hHeld => ?_)
                     clear hK K
                     refine norm_ (a' := ?_) ?_ ?_
                     rotate_left
                     ·show Act.put _ (some 202) _ = _
                      simp only [Act.put,q1,q2,q3,i64_w,i32_w]
                      rfl
                     exact norm_ (by simp only [putAll, Act.put, q1, q2, q3]) (hCont (v231) _ ⟨(by (with_reducible repeat (first | apply Kd.R_alloc | apply Kd.R_drewN | apply Kd.R_drew)); exact Kd.R_mono HO229.out (fun _ hk => ⟨hk.1.1, hk.2⟩)), (by (with_reducible repeat (first | apply Kd.R_alloc | apply Kd.R_drewN | apply Kd.R_drew)); exact Kd.R_mono HO232.out (fun _ hk => ⟨hk.1.1, hk.2⟩)), (by (with_reducible repeat (first | apply Kd.N_alloc | apply Kd.N_drewN | apply Kd.N_drew)); exact Kd.N_mono HO_106.out (fun _ hk => ⟨hk.1.1, ⟨hk.1.2, hk.2⟩⟩)), (by (with_reducible repeat (first | apply Kd.V_alloc | apply Kd.V_drewN | apply Kd.V_drew)); exact Kd.V_mono HO_2.out (fun _ hk => ⟨hk.1.1.1, ⟨hk.1.2, ⟨hk.2, hk.1.1.2⟩⟩⟩)), (by repeat (first | (with_reducible first | exact HB.out | apply below_alloc | apply pw_below_drewN | apply below_drew1) | exact HB.out))⟩)
                  rintro v231 w118 ⟨h0_, h1_, h2_, h3_, h4_⟩
                  have n0_ : Aside0 (Kd.R (Kd.int .u8) 5 w118 w.heap.size (fun k_ => (w.heap.size ≤ k_) ∧ some k_ ≠ (v231 : Value).ownBlock) v228 t227) := ⟨h0_⟩
                  have n1_ : Aside0 (Kd.R (Kd.int .u8) 5 w118 w.heap.size (fun k_ => (w.heap.size ≤ k_) ∧ some k_ ≠ (v228 : Value).ownBlock) v231 t230) := ⟨h1_⟩
                  have n2_ : Aside0 (Kd.N (Kd.slice 5 (Kd.int .u8)) 23 w118 w.heap.size (fun k_ => (P2_ k_ ∨ w.heap.size ≤ k_) ∧ some k_ ≠ (v228 : Value).ownBlock ∧ some k_ ≠ (v231 : Value).ownBlock) (.slice Ao84 y224.length co84) y224) := ⟨h2_⟩
                  have n3_ : Aside0 (Kd.V (Kd.int .u8) 5 w118 w.heap.size (fun k_ => (P2_ k_ ∨ w.heap.size ≤ k_) ∧ some k_ ≠ (v228 : Value).ownBlock ∧ some k_ ≠ (v231 : Value).ownBlock ∧ some k_ ≠ (.slice Ao84 y224.length co84 : Value).ownBlock) (.slice A2 l2.length c2) l2) := ⟨h3_⟩
                  have n4_ : Aside0 (Below w.heap.size w w118) := ⟨h4_⟩
                  clear HO_2
                  clear HO_106
                  clear HB
                  clear h0_ h1_ h2_ h3_ h4_
                  have HO229 := n0_
                  have HO232 := n1_
                  have HO_106 := n2_
                  have HO_2 := n3_
                  have HB := n4_
                  clear n0_ n1_ n2_ n3_ n4_
                  have hHeld := trivial
                  refine norm_ (a' := ?_) ?_ ?_
                  rotate_left
                  ·simp only [putAll, Act.put, q1, q2, q3]
                   rfl
                  refine pure_ (i := 6) (N := some 206) (v := ?_) (a' := ?_) #[I,I,I,I,I,I,I,O] rfl rfl (any_of HT_.out (by kernel_rfl)) (fun _ _ _ h => h) (Or.inl ⟨by rfl, ?_⟩) ?_ ?_
                  rotate_left
                  ·intro w'
                   go_simp
                   with_reducible rfl
                  rotate_left
                  ·simp only [Act.put,q1,q2,q3,i64_w,i32_w]
                   rfl
                  refine pure_ (i := 7) (N := some 8) (v := ?_) (a' := ?_) #[I,I,I,I,I,I,I,I] rfl rfl (any_of HT_.out (by kernel_rfl)) (fun _ _ _ h => h) (Or.inl ⟨by rfl, ?_⟩) ?_ ?_
                  rotate_left
                  ·intro w'
                   go_simp
                   with_reducible rfl
                  rotate_left
                  ·simp only [Act.put,q1,q2,q3,i64_w,i32_w]
                   rfl
                  refine done_ (done_of HT_.out (by kernel_rfl)) ?_
                  try go_wp2
                  go_ret
                  exact ⟨by first | rfl | (simp [errW_none, errW_some] <;> rfl) | (simp only [← hji55, ← hji60]; first | rfl | (simp [errW_none, errW_some] <;> rfl)) | (simp [*, errW_none, errW_some] <;> rfl), by repeat (first | (with_reducible first | exact HB.out | apply below_alloc | apply pw_below_drewN | apply below_drew1) | exact HB.out)⟩
              ·rw [if_neg c64] at H
               exact absurd H (by simp)
             ·rw [if_neg c63] at H
              exact absurd H (by simp)
            ·rw [if_neg c62] at H
             exact absurd H (by simp)
           ·rw [if_neg c61] at H
            exact absurd H (by simp)
          ·rw [if_neg c59] at H
           exact absurd H (by simp)
         ·rw [if_neg c58] at H
          exact absurd H (by simp)
        ·rw [if_neg c57] at H
         exact absurd H (by simp)
       ·rw [if_neg c56] at H
        exact absurd H (by simp)
 ·replace c6 := Bool.eq_false_iff.mpr c6
  subst c6
  have H1 : (none) = some r := by rw [if_neg (show ¬ (false = true) by decide)] at H; exact H
  clear H
  have H := H1
  clear H1
  exact absurd H (by simp)

/-- THE ONE PURE STATEMENT of repriselaw1_LebTells: yours. -/
def repriselaw1_LebTells.Pure : Prop := ∀ (a0 : Int) (a1 : Int) (l2 : List Int) (a3 : Int), (Lit.int .u64 a0).wf = true → (Lit.int .u8 a1).wf = true → l2.length ≤ maxLen → l2.length * 1 ≤ 140737488351232 → (∀ x ∈ l2, (Lit.int .u8 x).wf = true) → (Lit.int .i64 a3).wf = true → ∃ k, repriselaw1_LebTells.f k a0 a1 l2 a3 = some true
theorem repriselaw1_LebTells.walk (P : repriselaw1_LebTells.Pure) (a0 : Int) (a1 : Int) (a2 : Option Addr) (len2 cap2 : Nat) (z2 : List Int) (a3 : Int) (w : World) (w0 : (Lit.int .u64 a0).wf = true) (w1 : (Lit.int .u8 a1).wf = true) (w2 : (a2 = none ∧ len2 = 0 ∧ cap2 = 0 ∧ z2 = []) ∨ ∃ x, a2 = some x ∧ len2 ≤ cap2 ∧ cap2 ≤ maxLen ∧ z2.length = cap2 ∧ (∀ i, i < z2.length → w.cell? (x.add i) = some (.int .u8 (z2.getD i 0))) ∧ ∀ n ∈ z2, (Lit.int .u8 n).wf = true) (y2 : len2 * 1 ≤ 140737488351232) (w3 : (Lit.int .i64 a3).wf = true) :
  Calls Try.prog 3 #[.int .u64 a0, .int .u8 a1, .slice a2 len2 cap2, .int .i64 a3] w fun e w' => e = .returned (.bool true) ∧ Below w.heap.size w w' := by
 obtain ⟨l2, rfl, hr2, hm2, hw2, hc2⟩ := ReadsInt.ofRowC w2
 obtain ⟨k, h⟩ := P a0 a1 l2 a3 w0 w1 hm2 y2 hw2 w3
 refine (repriselaw1_LebTells.calls k a0 a1 (fun k_ => k_ < w.heap.size) _ _ l2 a3 true w (Kd.V_mk hc2 (Kd.C_F (Kd.heap_int .u8) (Kd.C_of_reads (d := (0 : Int)) (h1 := fun _ => rfl) hr2))) h).mono ?_
 rintro e w' ⟨rfl, hd⟩
 exact ⟨rfl, hd⟩

end Go.Proofs.Ytghfclocelhpjaa.QLebTells
