/- Lean functions for the Go functions that the law reaches, and proofs that each call comes to just what its Lean function tells; no condition. (Written by a program of this session.) -/
import Derived.Test.YtkgdmbddenfkpaaQCrcTurnedx0
namespace Go.Proofs.Ytkgdmbddenfkpaa.QCrcTurned
open Go.RowKit Go.Proofs.YtkgdmbddenfkpaaW.PrintWords Go.Proofs.YtkgdmbddenfkpaaW.PrintLast Go.Proofs.YtkgdmbddenfkpaaW.PrintMore
attribute [local go_sem] max2_int min2_int max_two min_two max_three min_three max_four min_four   -- for this text's walks alone
set_option linter.unusedVariables false
set_option linter.unusedSimpArgs false

/-! ### crc_one: function 23 -/
def crc_one.l0 : Nat → Int → Int → Option (Int)
  | 0, _, _ => none
  | k + 1, x0, x4 => if x4 < 8 then (if (Go.bits .and .u32 x0 1) = 1 then (crc_one.l0 k (Go.bits .xor .u32 (x0 / 2) 3988292384) (wrap64 (x4 + 1))) else (crc_one.l0 k (x0 / 2) (wrap64 (x4 + 1)))) else (some x0)
def crc_one.f (k : Nat) (a0 : Int) : Option (Int) := crc_one.l0 k a0 0
theorem crc_one.mono_l : ∀ k, (∀ y0 y1, LeO (crc_one.l0 k y0 y1) (crc_one.l0 (k + 1) y0 y1))
  | 0 => fun _ _ r h => by simp [crc_one.l0] at h
  | k + 1 => by
    have ih0 := crc_one.mono_l k
    · intro y0 y1
      unfold crc_one.l0
      repeat' first
      | (with_reducible exact ih0 _ _)
      | (with_reducible exact LeO.refl _)
      | (with_reducible exact LeO.none _)
      | (with_reducible refine LeO.ite ?_ ?_)
      | (with_reducible refine LeO.bind ?_ (fun _ => ?_))
      | exact ih0 _ _
      | exact LeO.none _
      | refine LeO.ite ?_ ?_
      | refine LeO.bind ?_ (fun _ => ?_)
theorem crc_one.mono : ∀ a0 k, LeO (crc_one.f k a0) (crc_one.f (k + 1) a0) := by
  intro a0 k
  have ih0 := crc_one.mono_l k
  unfold crc_one.f
  repeat' first
      | (with_reducible exact ih0 _ _)
      | (with_reducible exact LeO.refl _)
      | (with_reducible exact LeO.none _)
      | (with_reducible refine LeO.ite ?_ ?_)
      | (with_reducible refine LeO.bind ?_ (fun _ => ?_))
      | exact ih0 _ _
      | exact LeO.none _
      | refine LeO.ite ?_ ?_
      | refine LeO.bind ?_ (fun _ => ?_)
set_option maxHeartbeats 8000000 in
set_option maxRecDepth 100000 in
theorem crc_one.calls (k : Nat) (a0 : Int) (r : Int) (w : World) (h : crc_one.f k a0 = some r) :
    Calls Try.prog 23 #[.int .u32 a0] w fun e w' => e = .returned (.int .u32 r) ∧ Drawn0 w w' := by
  have H : (crc_one.l0 k a0 0) = some r := h
  clear h
  have H' := Aside0.mk H
  clear H
  go_enter Try.func23, Try.ntmps23
  go_wp2
  go_loopg [0, 4] k (fun kq v0 v4 w' => ∃ (x0_1 : Int) (x4_1 : Int), v0 = .int .u32 x0_1 ∧ v4 = .int .i64 x4_1 ∧ Aside0 (crc_one.l0 kq x0_1 x4_1 = some r) ∧ Aside0 (kq ≤ k) ∧ Drawn0 w w')
  case atStart => exact ⟨(a0), (0), (by first | rfl | (simp; done) | (simp [*]; done)), (by first | rfl | (simp; done) | (simp [*]; done)), H', ⟨Nat.le_refl _⟩, by repeat (first | exact Drawn0.refl _ | apply Drawn0.step)⟩
  case round =>
    clear H'
    obtain ⟨x0_1, x4_1, rfl, rfl, HA, HK1, ⟨m1, rfl⟩⟩ := hrel
    cases gk with
    | zero => exact absurd HA.out (by simp [crc_one.l0])
    | succ k1 =>
      have H := HA.out
      clear HA
      simp only [crc_one.l0] at H
      by_cases c2 : x4_1 < 8
      · rw [if_pos c2] at H
        have c2b0 : decide (x4_1 < 8) = true := decide_eq_true c2
        clear c2
        by_cases c3 : (Go.bits .and .u32 x0_1 1) = 1
        · rw [if_pos c3] at H
          have c3b0 : ((Go.bits .and .u32 x0_1 1) == 1) = true := beq_iff_eq.mpr c3
          have c3b1 : ((Go.bits .and .u32 x0_1 1) != 1) = false := bne_eq_false_iff_eq.mpr c3
          clear c3
          have H' := Aside0.mk H
          clear H
          go_wp2
          go_roundg k1
          case measure => have := HK1.out; omega
          case rel => exact ⟨(Go.bits .xor .u32 (x0_1 / 2) 3988292384), (wrap64 (x4_1 + 1)), (by first | rfl | (simp; done) | (simp [*]; done)), (by first | rfl | (simp; done) | (simp [*]; done)), H', ⟨by have := HK1.out; omega⟩, by repeat (first | exact Drawn0.refl _ | apply Drawn0.step)⟩
        · rw [if_neg c3] at H
          have c3b0 : ((Go.bits .and .u32 x0_1 1) == 1) = false := beq_eq_false_iff_ne.mpr c3
          have c3b1 : ((Go.bits .and .u32 x0_1 1) != 1) = true := bne_iff_ne.mpr c3
          have H' := Aside0.mk H
          clear H
          go_wp2
          go_roundg k1
          case measure => have := HK1.out; omega
          case rel => exact ⟨(x0_1 / 2), (wrap64 (x4_1 + 1)), (by first | rfl | (simp; done) | (simp [*]; done)), (by first | rfl | (simp; done) | (simp [*]; done)), H', ⟨by have := HK1.out; omega⟩, by repeat (first | exact Drawn0.refl _ | apply Drawn0.step)⟩
      · rw [if_neg c2] at H
        have c2b0 : decide (x4_1 < 8) = false := decide_eq_false c2
        clear c2
        obtain rfl := Option.some.inj H
        go_wp2
        go_ret
        exact ⟨by first | rfl | (simp; done) | (simp [*]; done), by repeat (first | exact Drawn0.refl _ | apply Drawn0.step)⟩

-- NOT PRINTED: function 10 (crc_Table)

/-! ### crc_More: function 13 -/
def crc_More.f (a0 : Int) (l1 : List Int) : Option Int := if 0 ≤ a0 ∧ a0 < 4294967296 ∧ (∀ x ∈ l1, 0 ≤ x ∧ x < 256) then some ((CrcW.moreI a0.toNat l1 : Nat) : Int) else none
theorem crc_More.calls (a0 : Int) (A1 : Option Addr) (c1 : Nat) (l1 : List Int) (r : Int) (w : World) (hr1 : Kd.C (Kd.int .u8) w A1 l1.length l1) (hc1 : l1.length ≤ c1) (h : crc_More.f a0 l1 = some r) :
    Calls Try.prog 13 #[.int .u32 a0, .slice A1 l1.length c1] w fun e w' => e = .returned (.int .u32 r) ∧ Below w.heap.size w w' := by
  unfold crc_More.f at h
  split at h
  case isTrue hh =>
    obtain ⟨h0, h1, hb⟩ := hh
    obtain rfl := Option.some.inj h
    have := CrcW.more_calls a0.toNat (by omega) A1 c1 l1 w hb hr1
    rw [show ((a0.toNat : Nat) : Int) = a0 from by omega] at this
    exact this
  case isFalse => cases h

/-! ### crc_Sum: function 11 -/
def crc_Sum.f (l0 : List Int) : Option (Int) := (crc_More.f 0 l0).bind fun t101 => (some t101)
set_option maxHeartbeats 8000000 in
set_option maxRecDepth 100000 in
theorem crc_Sum.calls (A0 : Option Addr) (c0 : Nat) (l0 : List Int) (r : Int) (w : World) (hr0 : Kd.C (Kd.int .u8) w A0 l0.length l0) (hc0 : l0.length ≤ c0) (h : crc_Sum.f l0 = some r) :
    Calls Try.prog 11 #[.slice A0 l0.length c0] w fun e w' => e = .returned (.int .u32 r) ∧ Below w.heap.size w w' := by
  have HR0 := Aside0.mk hr0
  have HC0 := Aside0.mk hc0
  clear hr0 hc0
  have HB := Aside0.mk (Below.refl w.heap.size w)
  have H : ((crc_More.f 0 l0).bind fun t101 => (some t101)) = some r := h
  clear h
  replace H := Option.bind_eq_some_iff.mp H
  obtain ⟨t101, A20, H⟩ := H
  replace H : (some t101) = some r := H
  have A2 := Aside0.mk A20
  clear A20
  obtain rfl := Option.some.inj H
  go_enter Try.func11, Try.ntmps11
  go_wp2_with (first | ((with_reducible refine gate_callee (f := 13) rfl ?_); refine goesL_ (some 4) rfl rfl Try.func13 (by kernel_rfl) rfl #[.int .u32 0, .slice A0 l0.length c0] rfl (by (try simp only [List.map_toArray, List.map_cons, List.map_nil]); first | done | rfl | (simp only [List.length_drop, List.length_take]; rfl)) ?_; (with_reducible refine (crc_More.calls 0 _ _ l0 t101 _ ?side1 ?side2 A2.out).mono ?_); (case side1 => repeat (first | exact HR0.out | (with_reducible refine Kd.C_alloc ?_ _) | (with_reducible refine Kd.C_drewN ?_ _) | (with_reducible refine Kd.C_drew ?_))); (case side2 => exact HC0.out); rintro e w3 ⟨rfl, hb⟩; refine ⟨_, rfl, ?_⟩; have n0_ := Aside0.mk (below_step (by repeat (first | (with_reducible first | exact HB.out | apply below_alloc | apply pw_below_drewN | apply below_drew1) | exact HB.out)) hb); clear HB; have HB := n0_; clear n0_; (try clear hb); (try clear hb2); (try clear hk); (try clear hi)))
  go_ret
  exact ⟨by first | rfl | (simp [errW_none, errW_some] <;> rfl) | (simp [*, errW_none, errW_some] <;> rfl), by repeat (first | (with_reducible first | exact HB.out | apply below_alloc | apply pw_below_drewN | apply below_drew1) | exact HB.out)⟩

/-! ### crc_Four: function 16 -/
def crc_Four.f (a0 : Int) : Option (List Int) := some (([(a0) % 256, (a0 / 256) % 256, (a0 / 65536) % 256, (a0 / 16777216) % 256] : List Int))
set_option maxHeartbeats 8000000 in
set_option maxRecDepth 100000 in
theorem crc_Four.calls (a0 : Int) (r : List Int) (w : World) (h : crc_Four.f a0 = some r) :
    Calls Try.prog 16 #[.int .u32 a0] w fun e w' => ∃ v0_ : Value, e = .returned (v0_) ∧ Kd.R (Kd.int .u8) 5 w' w.heap.size (fun _ => True) v0_ r ∧ Below w.heap.size w w' := by
  have HB := Aside0.mk (Below.refl w.heap.size w)
  have H : (some (([(a0) % 256, (a0 / 256) % 256, (a0 / 65536) % 256, (a0 / 16777216) % 256] : List Int))) = some r := h
  clear h
  obtain ⟨y102, hy102⟩ : ∃ y_ : List Int, y_ = (([(a0) % 256, (a0 / 256) % 256, (a0 / 65536) % 256, (a0 / 16777216) % 256] : List Int)) := ⟨_, rfl⟩
  replace H : (some y102) = some r := by first | (rw [hy102]; with_reducible exact H) | (have H2_ := (Option.bind_some _ _).symm.trans H; rw [hy102]; with_reducible exact H2_) | (have H2_ := (Option.bind_some _ _).symm.trans H; with_reducible exact H2_) | with_reducible exact H | (rw [hy102]; exact H) | exact H
  have Ny102 := Aside0.mk hy102
  clear hy102
  obtain rfl := Option.some.inj H
  go_enter Try.func16, Try.ntmps16
  go_wp2_with (first | ((with_reducible refine gate_dst (N := 14) rfl ?_); refine Kd.R_lit (Kd.int .u8) _ 5 ?hg (N := 14) ?hd (xs := ([(a0) % 256, (a0 / 256) % 256, (a0 / 65536) % 256, (a0 / 16777216) % 256] : List Int)) (inner := [.int .u8 ((a0) % 256), .int .u8 ((a0 / 256) % 256), .int .u8 ((a0 / 65536) % 256), .int .u8 ((a0 / 16777216) % 256)]) (ok := fun _ => True) (okp := fun _ => True) ?hr ?hp (fun _ hk => hk) trivial (Below.refl _ _) (Nat.le_refl _) (by simp) ?_; (case hd => rfl); (case hg => rfl); (case hr => first | (go_simp; done) | (go_simp; rfl)); (case hp => exact (Reps.one (show Kd.M (Kd.int .u8) _ _ _ ((a0) % 256) [.int .u8 ((a0) % 256)] from rfl) (Reps.one (show Kd.M (Kd.int .u8) _ _ _ ((a0 / 256) % 256) [.int .u8 ((a0 / 256) % 256)] from rfl) (Reps.one (show Kd.M (Kd.int .u8) _ _ _ ((a0 / 65536) % 256) [.int .u8 ((a0 / 65536) % 256)] from rfl) (Reps.one (show Kd.M (Kd.int .u8) _ _ _ ((a0 / 16777216) % 256) [.int .u8 ((a0 / 16777216) % 256)] from rfl) (Reps.none _ _)))))); intro v103 w2 ho3 hb hg_ hnew_; clear hg_ hnew_; (first | rw [← Ny102.out] at ho3 | (simp only [Int.reduceToNat] at ho3; rw [← Ny102.out] at ho3)); have n0_ := Aside0.mk (Kd.R_lower ho3 (below_size (by repeat (first | (with_reducible first | exact HB.out | apply below_alloc | apply pw_below_drewN | apply below_drew1) | exact HB.out)))); have n1_ := Aside0.mk (below_step (by repeat (first | (with_reducible first | exact HB.out | apply below_alloc | apply pw_below_drewN | apply below_drew1) | exact HB.out)) hb); clear HB; have HO104 := n0_; have HB := n1_; clear n0_ n1_; clear hb ho3))
  go_ret
  exact ⟨_, by first | rfl | (simp [errW_none, errW_some] <;> rfl) | (simp [*, errW_none, errW_some] <;> rfl), by (with_reducible repeat (first | apply Kd.R_alloc | apply Kd.R_drewN | apply Kd.R_drew)); exact HO104.out, by repeat (first | (with_reducible first | exact HB.out | apply below_alloc | apply pw_below_drewN | apply below_drew1) | exact HB.out)⟩

/-! ### repriselaw2_known: function 9 -/
def repriselaw2_known.f : Option Bool := some true
theorem repriselaw2_known.sum9 : crc_Sum.f [49, 50, 51, 52, 53, 54, 55, 56, 57] = some 3421780262 := by decide +kernel
theorem repriselaw2_known.sum0 : crc_Sum.f [] = some 0 := by decide +kernel
theorem repriselaw2_known.tab1 : CrcM.F 1 = 1996959894 := by decide +kernel
theorem repriselaw2_known.four1 : crc_Four.f 16909060 = some [4, 3, 2, 1] := by decide +kernel
theorem repriselaw2_known.lit9 (w : World) : Kd.C (Kd.int .u8) (w.alloc (.cells #[.int .u8 49, .int .u8 50, .int .u8 51, .int .u8 52, .int .u8 53, .int .u8 54, .int .u8 55, .int .u8 56, .int .u8 57] 5 (9, 10))) (some ⟨w.heap.size, 0, none⟩) 9 [49, 50, 51, 52, 53, 54, 55, 56, 57] := by
  have h : ReadsOf (Value.int .u8) (0 : Int) (w.alloc (.cells #[.int .u8 49, .int .u8 50, .int .u8 51, .int .u8 52, .int .u8 53, .int .u8 54, .int .u8 55, .int .u8 56, .int .u8 57] 5 (9, 10))) (some ⟨w.heap.size, 0, none⟩) 9 [49, 50, 51, 52, 53, 54, 55, 56, 57] := by
    refine ⟨rfl, by decide, fun _ => ⟨_, rfl, fun j hj => ?_⟩⟩
    rw [show (⟨w.heap.size, 0, none⟩ : Addr).add j = ⟨w.heap.size, j, none⟩ from by unfold Addr.add; split <;> simp_all]
    rw [cell_of_row _ w.heap.size j _ 5 (9, 10) (heap_alloc_last w _)]
    rcases j with _ | _ | _ | _ | _ | _ | _ | _ | _ | j
    all_goals first | rfl | omega
  exact Kd.C_of_reads (h1 := fun _ => rfl) h
set_option maxHeartbeats 4000000 in
set_option maxRecDepth 1000000 in
theorem repriselaw2_known.calls (r : Bool) (w : World) (h : repriselaw2_known.f = some r) :
    Calls Try.prog 9 #[] w fun e w' => e = .returned (.bool r) ∧ Below w.heap.size w w' := by
  obtain rfl := Option.some.inj h
  obtain ⟨hv, hi⟩ := zero_of_info CrcW.info25
  have hone := CrcW.rowK_one 256
  have hz : (Try.prog.info? 25).map (·.size) = some (CrcW.rowK 256).size := by rw [CrcW.rowK_size]; exact hi
  have hz0 : (Array.replicate 256 (Value.int .u32 0)).size = (CrcW.rowK 256).size := by rw [CrcW.rowK_size, Array.size_replicate]
  clear hi
  go_enter Try.func9, Try.ntmps9
  go_upto_region 2 with (first | (go_at_call 10; refine (CrcW.table_calls _).mono ?_; rintro e w1 ⟨rfl, hbel⟩) | (refine wpList_store_row rfl 25 _ _ rfl _ (CrcW.rowK 256) rfl rfl 25 (Array.replicate 256 (Value.int .u32 0)) (heap_alloc_last _ _) hz hz0 hone ?_))
  rw [World.setRow_alloc_new]
  clear hv hz hz0 hone
  have hbel2 : Below w.heap.size w (w1.alloc (.cells (CrcW.rowK 256) 25)) := hbel.alloc hbel.size _
  have hcell : (w1.alloc (.cells (CrcW.rowK 256) 25)).cell? ⟨w1.heap.size, 1, none⟩ = some (.int .u32 1996959894) := by
    rw [cell_of_row _ w1.heap.size 1 (CrcW.rowK 256) 25 (0, 0) (heap_alloc_last w1 _), CrcW.rowK_at 256 1 (by decide), if_pos (by decide), repriselaw2_known.tab1]; rfl
  have hlt : w1.heap.size < (w1.alloc (.cells (CrcW.rowK 256) 25)).heap.size := by simp
  clear hbel
  have HB := Aside0.mk hbel2
  have HC := Aside0.mk hcell
  have HL := Aside0.mk hlt
  clear hbel2 hcell hlt
  generalize w1.heap.size = g1 at *
  generalize w1.alloc (.cells (CrcW.rowK 256) 25) = W at *
  clear w1
  have kc := fun (w : World) (C : Array Value) (n c : Nat) => Lib.run_convert_bytes_const (P := Try.prog) w 22 5 C n c Try.underlying22 Try.underlying5
  go_wp2_with fail
  refine (crc_Sum.calls _ 9 [49, 50, 51, 52, 53, 54, 55, 56, 57] 3421780262 _ (repriselaw2_known.lit9 W) (by decide) repriselaw2_known.sum9).mono ?_
  rintro e w3 ⟨rfl, hb3⟩
  have hq : (3421780262 == (3421780262 : Int)) = true := rfl
  have hb4 : Below W.heap.size W w3 := ((Below.refl _ _).alloc (Nat.le_refl _) _).trans (hb3.mono (by simp))
  have HB2 := Aside0.mk (HB.out.trans (hb4.mono HB.out.size))
  have HC2 := Aside0.mk ((hb4.cell (p := ⟨g1, 1, none⟩) HL.out).trans HC.out)
  have HL2 := Aside0.mk (Nat.lt_of_lt_of_le HL.out hb4.size)
  clear hb3 hb4 HB HC HL
  go_wp2_with fail
  refine (crc_Sum.calls none 0 [] 0 _ (Kd.C_nil _ _) (by decide) repriselaw2_known.sum0).mono ?_
  rintro e w4 ⟨rfl, hb4⟩
  have HB3 := Aside0.mk (HB2.out.trans (hb4.mono HB2.out.size))
  have hc3 := (hb4.cell (p := ⟨g1, 1, none⟩) HL2.out).trans HC2.out
  clear hb4 HB2 HC2
  go_wp2_with fail
  refine (crc_Four.calls 16909060 [4, 3, 2, 1] _ repriselaw2_known.four1).mono ?_
  rintro e w5 ⟨v, rfl, ho, hb5⟩
  have hcv := own_string (P := Try.prog) Try.underlying22 Try.underlying5 Try.underlying9 (Kd.own_of_R ho)
  have HB4 := Aside0.mk (HB3.out.trans (hb5.mono HB3.out.size))
  clear ho hb5 hc3
  go_wp2
  go_ret
  refine ⟨?_, HB4.out⟩
  simp
  decide +kernel

end Go.Proofs.Ytkgdmbddenfkpaa.QCrcTurned
