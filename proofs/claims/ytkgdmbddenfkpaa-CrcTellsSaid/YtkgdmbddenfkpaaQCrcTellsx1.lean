/- Lean functions for the Go functions that the law reaches, and proofs that each call comes to just what its Lean function tells; no condition. (Written by a program of this session.) -/
import Derived.Test.YtkgdmbddenfkpaaQCrcTellsx0
namespace Go.Proofs.Ytkgdmbddenfkpaa.QCrcTells
open Go.RowKit Go.Proofs.YtkgdmbddenfkpaaW.PrintWords Go.Proofs.YtkgdmbddenfkpaaW.PrintLast Go.Proofs.YtkgdmbddenfkpaaW.PrintMore
attribute [local go_sem] max2_int min2_int max_two min_two max_three min_three max_four min_four   -- for this text's walks alone
set_option linter.unusedVariables false
set_option linter.unusedSimpArgs false

/-! ### crc_one: function 23 -/
def crc_one.l0 : Nat → Int → Int → Option (Int)
  | 0, _, _ => none
  | k + 1, x0, x4 => if x4 < 8 then (if (Go.bits .and .u32 x0 1) = 1 then (crc_one.l0 k (Go.bits .xor .u32 (x0 / 2) 3988292384) (wrap64 (x4 + 1))) else (crc_one.l0 k (x0 / 2) (wrap64 (x4 + 1)))) else (some x0)
def crc_one.f (k : Nat) (a0 : Int) : Option (Int) := crc_one.l0 k a0 0
theorem crc_one.mono_l : ∀ k, (∀ y0 y1, LeO (crc_one.l0 k y0 y1) (crc_one.l0 (k + 1) y0 y1))
  | 0 => fun _ _ r h => by simp [crc_one.l0] at h
  | k + 1 => by
    have ih0 := crc_one.mono_l k
    · intro y0 y1
      unfold crc_one.l0
      repeat' first
      | (with_reducible exact ih0 _ _)
      | (with_reducible exact LeO.refl _)
      | (with_reducible exact LeO.none _)
      | (with_reducible refine LeO.ite ?_ ?_)
      | (with_reducible refine LeO.bind ?_ (fun _ => ?_))
      | exact ih0 _ _
      | exact LeO.none _
      | refine LeO.ite ?_ ?_
      | refine LeO.bind ?_ (fun _ => ?_)
theorem crc_one.mono : ∀ a0 k, LeO (crc_one.f k a0) (crc_one.f (k + 1) a0) := by
  intro a0 k
  have ih0 := crc_one.mono_l k
  unfold crc_one.f
  repeat' first
      | (with_reducible exact ih0 _ _)
      | (with_reducible exact LeO.refl _)
      | (with_reducible exact LeO.none _)
      | (with_reducible refine LeO.ite ?_ ?_)
      | (with_reducible refine LeO.bind ?_ (fun _ => ?_))
      | exact ih0 _ _
      | exact LeO.none _
      | refine LeO.ite ?_ ?_
      | refine LeO.bind ?_ (fun _ => ?_)
set_option maxHeartbeats 8000000 in
set_option maxRecDepth 100000 in
theorem crc_one.calls (k : Nat) (a0 : Int) (r : Int) (w : World) (h : crc_one.f k a0 = some r) :
    Calls Try.prog 23 #[.int .u32 a0] w fun e w' => e = .returned (.int .u32 r) ∧ Drawn0 w w' := by
  have H : (crc_one.l0 k a0 0) = some r := h
  clear h
  have H' := Aside0.mk H
  clear H
  go_enter Try.func23, Try.ntmps23
  go_wp2
  go_loopg [0, 4] k (fun kq v0 v4 w' => ∃ (x0_1 : Int) (x4_1 : Int), v0 = .int .u32 x0_1 ∧ v4 = .int .i64 x4_1 ∧ Aside0 (crc_one.l0 kq x0_1 x4_1 = some r) ∧ Aside0 (kq ≤ k) ∧ Drawn0 w w')
  case atStart => exact ⟨(a0), (0), (by first | rfl | (simp; done) | (simp [*]; done)), (by first | rfl | (simp; done) | (simp [*]; done)), H', ⟨Nat.le_refl _⟩, by repeat (first | exact Drawn0.refl _ | apply Drawn0.step)⟩
  case round =>
    clear H'
    obtain ⟨x0_1, x4_1, rfl, rfl, HA, HK1, ⟨m1, rfl⟩⟩ := hrel
    cases gk with
    | zero => exact absurd HA.out (by simp [crc_one.l0])
    | succ k1 =>
      have H := HA.out
      clear HA
      simp only [crc_one.l0] at H
      by_cases c2 : x4_1 < 8
      · rw [if_pos c2] at H
        have c2b0 : decide (x4_1 < 8) = true := decide_eq_true c2
        clear c2
        by_cases c3 : (Go.bits .and .u32 x0_1 1) = 1
        · rw [if_pos c3] at H
          have c3b0 : ((Go.bits .and .u32 x0_1 1) == 1) = true := beq_iff_eq.mpr c3
          have c3b1 : ((Go.bits .and .u32 x0_1 1) != 1) = false := bne_eq_false_iff_eq.mpr c3
          clear c3
          have H' := Aside0.mk H
          clear H
          go_wp2
          go_roundg k1
          case measure => have := HK1.out; omega
          case rel => exact ⟨(Go.bits .xor .u32 (x0_1 / 2) 3988292384), (wrap64 (x4_1 + 1)), (by first | rfl | (simp; done) | (simp [*]; done)), (by first | rfl | (simp; done) | (simp [*]; done)), H', ⟨by have := HK1.out; omega⟩, by repeat (first | exact Drawn0.refl _ | apply Drawn0.step)⟩
        · rw [if_neg c3] at H
          have c3b0 : ((Go.bits .and .u32 x0_1 1) == 1) = false := beq_eq_false_iff_ne.mpr c3
          have c3b1 : ((Go.bits .and .u32 x0_1 1) != 1) = true := bne_iff_ne.mpr c3
          have H' := Aside0.mk H
          clear H
          go_wp2
          go_roundg k1
          case measure => have := HK1.out; omega
          case rel => exact ⟨(x0_1 / 2), (wrap64 (x4_1 + 1)), (by first | rfl | (simp; done) | (simp [*]; done)), (by first | rfl | (simp; done) | (simp [*]; done)), H', ⟨by have := HK1.out; omega⟩, by repeat (first | exact Drawn0.refl _ | apply Drawn0.step)⟩
      · rw [if_neg c2] at H
        have c2b0 : decide (x4_1 < 8) = false := decide_eq_false c2
        clear c2
        obtain rfl := Option.some.inj H
        go_wp2
        go_ret
        exact ⟨by first | rfl | (simp; done) | (simp [*]; done), by repeat (first | exact Drawn0.refl _ | apply Drawn0.step)⟩

-- NOT PRINTED: function 10 (crc_Table)

/-! ### crc_More: function 13 -/
def crc_More.f (a0 : Int) (l1 : List Int) : Option Int := if 0 ≤ a0 ∧ a0 < 4294967296 ∧ (∀ x ∈ l1, 0 ≤ x ∧ x < 256) then some ((CrcW.moreI a0.toNat l1 : Nat) : Int) else none
theorem crc_More.calls (a0 : Int) (A1 : Option Addr) (c1 : Nat) (l1 : List Int) (r : Int) (w : World) (hr1 : Kd.C (Kd.int .u8) w A1 l1.length l1) (hc1 : l1.length ≤ c1) (h : crc_More.f a0 l1 = some r) :
    Calls Try.prog 13 #[.int .u32 a0, .slice A1 l1.length c1] w fun e w' => e = .returned (.int .u32 r) ∧ Below w.heap.size w w' := by
  unfold crc_More.f at h
  split at h
  case isTrue hh =>
    obtain ⟨h0, h1, hb⟩ := hh
    obtain rfl := Option.some.inj h
    have := CrcW.more_calls a0.toNat (by omega) A1 c1 l1 w hb hr1
    rw [show ((a0.toNat : Nat) : Int) = a0 from by omega] at this
    exact this
  case isFalse => cases h

/-! ### crc_Sum: function 11 -/
def crc_Sum.f (l0 : List Int) : Option (Int) := (crc_More.f 0 l0).bind fun t101 => (some t101)
set_option maxHeartbeats 8000000 in
set_option maxRecDepth 100000 in
theorem crc_Sum.calls (A0 : Option Addr) (c0 : Nat) (l0 : List Int) (r : Int) (w : World) (hr0 : Kd.C (Kd.int .u8) w A0 l0.length l0) (hc0 : l0.length ≤ c0) (h : crc_Sum.f l0 = some r) :
    Calls Try.prog 11 #[.slice A0 l0.length c0] w fun e w' => e = .returned (.int .u32 r) ∧ Below w.heap.size w w' := by
  have HR0 := Aside0.mk hr0
  have HC0 := Aside0.mk hc0
  clear hr0 hc0
  have HB := Aside0.mk (Below.refl w.heap.size w)
  have H : ((crc_More.f 0 l0).bind fun t101 => (some t101)) = some r := h
  clear h
  replace H := Option.bind_eq_some_iff.mp H
  obtain ⟨t101, A20, H⟩ := H
  replace H : (some t101) = some r := H
  have A2 := Aside0.mk A20
  clear A20
  obtain rfl := Option.some.inj H
  go_enter Try.func11, Try.ntmps11
  go_wp2_with (first | ((with_reducible refine gate_callee (f := 13) rfl ?_); refine goesL_ (some 4) rfl rfl Try.func13 (by kernel_rfl) rfl #[.int .u32 0, .slice A0 l0.length c0] rfl (by (try simp only [List.map_toArray, List.map_cons, List.map_nil]); first | done | rfl | (simp only [List.length_drop, List.length_take]; rfl)) ?_; (with_reducible refine (crc_More.calls 0 _ _ l0 t101 _ ?side1 ?side2 A2.out).mono ?_); (case side1 => repeat (first | exact HR0.out | (with_reducible refine Kd.C_alloc ?_ _) | (with_reducible refine Kd.C_drewN ?_ _) | (with_reducible refine Kd.C_drew ?_))); (case side2 => exact HC0.out); rintro e w3 ⟨rfl, hb⟩; refine ⟨_, rfl, ?_⟩; have n0_ := Aside0.mk (below_step (by repeat (first | (with_reducible first | exact HB.out | apply below_alloc | apply pw_below_drewN | apply below_drew1) | exact HB.out)) hb); clear HB; have HB := n0_; clear n0_; (try clear hb); (try clear hb2); (try clear hk); (try clear hi)))
  go_ret
  exact ⟨by first | rfl | (simp [errW_none, errW_some] <;> rfl) | (simp [*, errW_none, errW_some] <;> rfl), by repeat (first | (with_reducible first | exact HB.out | apply below_alloc | apply pw_below_drewN | apply below_drew1) | exact HB.out)⟩

/-! ### crc_Four: function 16 -/
def crc_Four.f (a0 : Int) : Option (List Int) := some (([(a0) % 256, (a0 / 256) % 256, (a0 / 65536) % 256, (a0 / 16777216) % 256] : List Int))
set_option maxHeartbeats 8000000 in
set_option maxRecDepth 100000 in
theorem crc_Four.calls (a0 : Int) (r : List Int) (w : World) (h : crc_Four.f a0 = some r) :
    Calls Try.prog 16 #[.int .u32 a0] w fun e w' => ∃ v0_ : Value, e = .returned (v0_) ∧ Kd.R (Kd.int .u8) 5 w' w.heap.size (fun _ => True) v0_ r ∧ Below w.heap.size w w' := by
  have HB := Aside0.mk (Below.refl w.heap.size w)
  have H : (some (([(a0) % 256, (a0 / 256) % 256, (a0 / 65536) % 256, (a0 / 16777216) % 256] : List Int))) = some r := h
  clear h
  obtain ⟨y102, hy102⟩ : ∃ y_ : List Int, y_ = (([(a0) % 256, (a0 / 256) % 256, (a0 / 65536) % 256, (a0 / 16777216) % 256] : List Int)) := ⟨_, rfl⟩
  replace H : (some y102) = some r := by first | (rw [hy102]; with_reducible exact H) | (have H2_ := (Option.bind_some _ _).symm.trans H; rw [hy102]; with_reducible exact H2_) | (have H2_ := (Option.bind_some _ _).symm.trans H; with_reducible exact H2_) | with_reducible exact H | (rw [hy102]; exact H) | exact H
  have Ny102 := Aside0.mk hy102
  clear hy102
  obtain rfl := Option.some.inj H
  go_enter Try.func16, Try.ntmps16
  go_wp2_with (first | ((with_reducible refine gate_dst (N := 14) rfl ?_); refine Kd.R_lit (Kd.int .u8) _ 5 ?hg (N := 14) ?hd (xs := ([(a0) % 256, (a0 / 256) % 256, (a0 / 65536) % 256, (a0 / 16777216) % 256] : List Int)) (inner := [.int .u8 ((a0) % 256), .int .u8 ((a0 / 256) % 256), .int .u8 ((a0 / 65536) % 256), .int .u8 ((a0 / 16777216) % 256)]) (ok := fun _ => True) (okp := fun _ => True) ?hr ?hp (fun _ hk => hk) trivial (Below.refl _ _) (Nat.le_refl _) (by simp) ?_; (case hd => rfl); (case hg => rfl); (case hr => first | (go_simp; done) | (go_simp; rfl)); (case hp => exact (Reps.one (show Kd.M (Kd.int .u8) _ _ _ ((a0) % 256) [.int .u8 ((a0) % 256)] from rfl) (Reps.one (show Kd.M (Kd.int .u8) _ _ _ ((a0 / 256) % 256) [.int .u8 ((a0 / 256) % 256)] from rfl) (Reps.one (show Kd.M (Kd.int .u8) _ _ _ ((a0 / 65536) % 256) [.int .u8 ((a0 / 65536) % 256)] from rfl) (Reps.one (show Kd.M (Kd.int .u8) _ _ _ ((a0 / 16777216) % 256) [.int .u8 ((a0 / 16777216) % 256)] from rfl) (Reps.none _ _)))))); intro v103 w2 ho3 hb hg_ hnew_; clear hg_ hnew_; (first | rw [← Ny102.out] at ho3 | (simp only [Int.reduceToNat] at ho3; rw [← Ny102.out] at ho3)); have n0_ := Aside0.mk (Kd.R_lower ho3 (below_size (by repeat (first | (with_reducible first | exact HB.out | apply below_alloc | apply pw_below_drewN | apply below_drew1) | exact HB.out)))); have n1_ := Aside0.mk (below_step (by repeat (first | (with_reducible first | exact HB.out | apply below_alloc | apply pw_below_drewN | apply below_drew1) | exact HB.out)) hb); clear HB; have HO104 := n0_; have HB := n1_; clear n0_ n1_; clear hb ho3))
  go_ret
  exact ⟨_, by first | rfl | (simp [errW_none, errW_some] <;> rfl) | (simp [*, errW_none, errW_some] <;> rfl), by (with_reducible repeat (first | apply Kd.R_alloc | apply Kd.R_drewN | apply Kd.R_drew)); exact HO104.out, by repeat (first | (with_reducible first | exact HB.out | apply below_alloc | apply pw_below_drewN | apply below_drew1) | exact HB.out)⟩

/-! ### repriselaw2_known: function 9 -/
def repriselaw2_known.f : Option Bool := some true
theorem repriselaw2_known.sum9 : crc_Sum.f [49, 50, 51, 52, 53, 54, 55, 56, 57] = some 3421780262 := by decide +kernel
theorem repriselaw2_known.sum0 : crc_Sum.f [] = some 0 := by decide +kernel
theorem repriselaw2_known.tab1 : CrcM.F 1 = 1996959894 := by decide +kernel
theorem repriselaw2_known.four1 : crc_Four.f 16909060 = some [4, 3, 2, 1] := by decide +kernel
theorem repriselaw2_known.lit9 (w : World) : Kd.C (Kd.int .u8) (w.alloc (.cells #[.int .u8 49, .int .u8 50, .int .u8 51, .int .u8 52, .int .u8 53, .int .u8 54, .int .u8 55, .int .u8 56, .int .u8 57] 5 (9, 10))) (some ⟨w.heap.size, 0, none⟩) 9 [49, 50, 51, 52, 53, 54, 55, 56, 57] := by
  have h : ReadsOf (Value.int .u8) (0 : Int) (w.alloc (.cells #[.int .u8 49, .int .u8 50, .int .u8 51, .int .u8 52, .int .u8 53, .int .u8 54, .int .u8 55, .int .u8 56, .int .u8 57] 5 (9, 10))) (some ⟨w.heap.size, 0, none⟩) 9 [49, 50, 51, 52, 53, 54, 55, 56, 57] := by
    refine ⟨rfl, by decide, fun _ => ⟨_, rfl, fun j hj => ?_⟩⟩
    rw [show (⟨w.heap.size, 0, none⟩ : Addr).add j = ⟨w.heap.size, j, none⟩ from by unfold Addr.add; split <;> simp_all]
    rw [cell_of_row _ w.heap.size j _ 5 (9, 10) (heap_alloc_last w _)]
    rcases j with _ | _ | _ | _ | _ | _ | _ | _ | _ | j
    all_goals first | rfl | omega
  exact Kd.C_of_reads (h1 := fun _ => rfl) h
set_option maxHeartbeats 4000000 in
set_option maxRecDepth 1000000 in
theorem repriselaw2_known.calls (r : Bool) (w : World) (h : repriselaw2_known.f = some r) :
    Calls Try.prog 9 #[] w fun e w' => e = .returned (.bool r) ∧ Below w.heap.size w w' := by
  obtain rfl := Option.some.inj h
  obtain ⟨hv, hi⟩ := zero_of_info CrcW.info25
  have hone := CrcW.rowK_one 256
  have hz : (Try.prog.info? 25).map (·.size) = some (CrcW.rowK 256).size := by rw [CrcW.rowK_size]; exact hi
  have hz0 : (Array.replicate 256 (Value.int .u32 0)).size = (CrcW.rowK 256).size := by rw [CrcW.rowK_size, Array.size_replicate]
  clear hi
  go_enter Try.func9, Try.ntmps9
  go_upto_region 2 with (first | (go_at_call 10; refine (CrcW.table_calls _).mono ?_; rintro e w1 ⟨rfl, hbel⟩) | (refine wpList_store_row rfl 25 _ _ rfl _ (CrcW.rowK 256) rfl rfl 25 (Array.replicate 256 (Value.int .u32 0)) (heap_alloc_last _ _) hz hz0 hone ?_))
  rw [World.setRow_alloc_new]
  clear hv hz hz0 hone
  have hbel2 : Below w.heap.size w (w1.alloc (.cells (CrcW.rowK 256) 25)) := hbel.alloc hbel.size _
  have hcell : (w1.alloc (.cells (CrcW.rowK 256) 25)).cell? ⟨w1.heap.size, 1, none⟩ = some (.int .u32 1996959894) := by
    rw [cell_of_row _ w1.heap.size 1 (CrcW.rowK 256) 25 (0, 0) (heap_alloc_last w1 _), CrcW.rowK_at 256 1 (by decide), if_pos (by decide), repriselaw2_known.tab1]; rfl
  have hlt : w1.heap.size < (w1.alloc (.cells (CrcW.rowK 256) 25)).heap.size := by simp
  clear hbel
  have HB := Aside0.mk hbel2
  have HC := Aside0.mk hcell
  have HL := Aside0.mk hlt
  clear hbel2 hcell hlt
  generalize w1.heap.size = g1 at *
  generalize w1.alloc (.cells (CrcW.rowK 256) 25) = W at *
  clear w1
  have kc := fun (w : World) (C : Array Value) (n c : Nat) => Lib.run_convert_bytes_const (P := Try.prog) w 22 5 C n c Try.underlying22 Try.underlying5
  go_wp2_with fail
  refine (crc_Sum.calls _ 9 [49, 50, 51, 52, 53, 54, 55, 56, 57] 3421780262 _ (repriselaw2_known.lit9 W) (by decide) repriselaw2_known.sum9).mono ?_
  rintro e w3 ⟨rfl, hb3⟩
  have hq : (3421780262 == (3421780262 : Int)) = true := rfl
  have hb4 : Below W.heap.size W w3 := ((Below.refl _ _).alloc (Nat.le_refl _) _).trans (hb3.mono (by simp))
  have HB2 := Aside0.mk (HB.out.trans (hb4.mono HB.out.size))
  have HC2 := Aside0.mk ((hb4.cell (p := ⟨g1, 1, none⟩) HL.out).trans HC.out)
  have HL2 := Aside0.mk (Nat.lt_of_lt_of_le HL.out hb4.size)
  clear hb3 hb4 HB HC HL
  go_wp2_with fail
  refine (crc_Sum.calls none 0 [] 0 _ (Kd.C_nil _ _) (by decide) repriselaw2_known.sum0).mono ?_
  rintro e w4 ⟨rfl, hb4⟩
  have HB3 := Aside0.mk (HB2.out.trans (hb4.mono HB2.out.size))
  have hc3 := (hb4.cell (p := ⟨g1, 1, none⟩) HL2.out).trans HC2.out
  clear hb4 HB2 HC2
  go_wp2_with fail
  refine (crc_Four.calls 16909060 [4, 3, 2, 1] _ repriselaw2_known.four1).mono ?_
  rintro e w5 ⟨v, rfl, ho, hb5⟩
  have hcv := own_string (P := Try.prog) Try.underlying22 Try.underlying5 Try.underlying9 (Kd.own_of_R ho)
  have HB4 := Aside0.mk (HB3.out.trans (hb5.mono HB3.out.size))
  clear ho hb5 hc3
  go_wp2
  go_ret
  refine ⟨?_, HB4.out⟩
  simp
  decide +kernel

/-! ### repriseref1_Row: function 15 -/
def repriseref1_Row.l0 : Nat → Int → Int → Option (Int)
  | 0, _, _ => none
  | k + 1, x3, x4 => if x4 < 8 then (if (Go.bits .and .u32 x3 1) = 1 then (repriseref1_Row.l0 k (Go.bits .xor .u32 (x3 / 2) 3988292384) (wrap64 (x4 + 1))) else (repriseref1_Row.l0 k (x3 / 2) (wrap64 (x4 + 1)))) else (some x3)
def repriseref1_Row.f (k : Nat) (a0 : Int) : Option (Int) := repriseref1_Row.l0 k ((a0) % 4294967296) 0
theorem repriseref1_Row.mono_l : ∀ k, (∀ y0 y1, LeO (repriseref1_Row.l0 k y0 y1) (repriseref1_Row.l0 (k + 1) y0 y1))
  | 0 => fun _ _ r h => by simp [repriseref1_Row.l0] at h
  | k + 1 => by
    have ih0 := repriseref1_Row.mono_l k
    · intro y0 y1
      unfold repriseref1_Row.l0
      repeat' first
      | (with_reducible exact ih0 _ _)
      | (with_reducible exact LeO.refl _)
      | (with_reducible exact LeO.none _)
      | (with_reducible refine LeO.ite ?_ ?_)
      | (with_reducible refine LeO.bind ?_ (fun _ => ?_))
      | exact ih0 _ _
      | exact LeO.none _
      | refine LeO.ite ?_ ?_
      | refine LeO.bind ?_ (fun _ => ?_)
theorem repriseref1_Row.mono : ∀ a0 k, LeO (repriseref1_Row.f k a0) (repriseref1_Row.f (k + 1) a0) := by
  intro a0 k
  have ih0 := repriseref1_Row.mono_l k
  unfold repriseref1_Row.f
  repeat' first
      | (with_reducible exact ih0 _ _)
      | (with_reducible exact LeO.refl _)
      | (with_reducible exact LeO.none _)
      | (with_reducible refine LeO.ite ?_ ?_)
      | (with_reducible refine LeO.bind ?_ (fun _ => ?_))
      | exact ih0 _ _
      | exact LeO.none _
      | refine LeO.ite ?_ ?_
      | refine LeO.bind ?_ (fun _ => ?_)
set_option maxHeartbeats 8000000 in
set_option maxRecDepth 100000 in
theorem repriseref1_Row.calls (k : Nat) (a0 : Int) (r : Int) (w : World) (h : repriseref1_Row.f k a0 = some r) :
    Calls Try.prog 15 #[.int .i64 a0] w fun e w' => e = .returned (.int .u32 r) ∧ Drawn0 w w' := by
  have H : (repriseref1_Row.l0 k ((a0) % 4294967296) 0) = some r := h
  clear h
  have H' := Aside0.mk H
  clear H
  go_enter Try.func15, Try.ntmps15
  go_wp2
  go_loopg [3, 4] k (fun kq v3 v4 w' => ∃ (x3_1 : Int) (x4_1 : Int), v3 = .int .u32 x3_1 ∧ v4 = .int .i64 x4_1 ∧ Aside0 (repriseref1_Row.l0 kq x3_1 x4_1 = some r) ∧ Aside0 (kq ≤ k) ∧ Drawn0 w w')
  case atStart => exact ⟨((a0) % 4294967296), (0), (by first | rfl | (simp; done) | (simp [*]; done)), (by first | rfl | (simp; done) | (simp [*]; done)), H', ⟨Nat.le_refl _⟩, by repeat (first | exact Drawn0.refl _ | apply Drawn0.step)⟩
  case round =>
    clear H'
    try clear c1
    obtain ⟨x3_1, x4_1, rfl, rfl, HA, HK1, ⟨m1, rfl⟩⟩ := hrel
    cases gk with
    | zero => exact absurd HA.out (by simp [repriseref1_Row.l0])
    | succ k1 =>
      have H := HA.out
      clear HA
      simp only [repriseref1_Row.l0] at H
      by_cases c2 : x4_1 < 8
      · rw [if_pos c2] at H
        have c2b0 : decide (x4_1 < 8) = true := decide_eq_true c2
        clear c2
        by_cases c3 : (Go.bits .and .u32 x3_1 1) = 1
        · rw [if_pos c3] at H
          have c3b0 : ((Go.bits .and .u32 x3_1 1) == 1) = true := beq_iff_eq.mpr c3
          have c3b1 : ((Go.bits .and .u32 x3_1 1) != 1) = false := bne_eq_false_iff_eq.mpr c3
          clear c3
          have H' := Aside0.mk H
          clear H
          go_wp2
          go_roundg k1
          case measure => have := HK1.out; omega
          case rel => exact ⟨(Go.bits .xor .u32 (x3_1 / 2) 3988292384), (wrap64 (x4_1 + 1)), (by first | rfl | (simp; done) | (simp [*]; done)), (by first | rfl | (simp; done) | (simp [*]; done)), H', ⟨by have := HK1.out; omega⟩, by repeat (first | exact Drawn0.refl _ | apply Drawn0.step)⟩
        · rw [if_neg c3] at H
          have c3b0 : ((Go.bits .and .u32 x3_1 1) == 1) = false := beq_eq_false_iff_ne.mpr c3
          have c3b1 : ((Go.bits .and .u32 x3_1 1) != 1) = true := bne_iff_ne.mpr c3
          have H' := Aside0.mk H
          clear H
          go_wp2
          go_roundg k1
          case measure => have := HK1.out; omega
          case rel => exact ⟨(x3_1 / 2), (wrap64 (x4_1 + 1)), (by first | rfl | (simp; done) | (simp [*]; done)), (by first | rfl | (simp; done) | (simp [*]; done)), H', ⟨by have := HK1.out; omega⟩, by repeat (first | exact Drawn0.refl _ | apply Drawn0.step)⟩
      · rw [if_neg c2] at H
        have c2b0 : decide (x4_1 < 8) = false := decide_eq_false c2
        clear c2
        obtain rfl := Option.some.inj H
        go_wp2
        go_ret
        exact ⟨by first | rfl | (simp; done) | (simp [*]; done), by repeat (first | exact Drawn0.refl _ | apply Drawn0.step)⟩

/-! ### repriseref1_More: function 14 -/
def repriseref1_More.l0 : Nat → Int → List Int → Int → Option (Int)
  | 0, _, _, _ => none
  | k + 1, x0, x1, x5 => if x5 < (x1.length : Int) then (if 0 ≤ x5 then ((repriseref1_Row.f k (wrap64 (Go.bits .xor .u8 ((x0) % 256) (rd x1 x5)))).bind fun t106 => (repriseref1_More.l0 k (Go.bits .xor .u32 t106 (x0 / 256)) x1 (wrap64 (x5 + 1)))) else (none)) else (some (Go.bits .xor .u32 4294967295 x0))
def repriseref1_More.f (k : Nat) (a0 : Int) (l1 : List Int) : Option (Int) := repriseref1_More.l0 k (Go.bits .xor .u32 4294967295 a0) l1 0
theorem repriseref1_More.mono_l : ∀ k, (∀ y0 y1 y2, LeO (repriseref1_More.l0 k y0 y1 y2) (repriseref1_More.l0 (k + 1) y0 y1 y2))
  | 0 => fun _ _ _ r h => by simp [repriseref1_More.l0] at h
  | k + 1 => by
    have ih0 := repriseref1_More.mono_l k
    · intro y0 y1 y2
      unfold repriseref1_More.l0
      repeat' first
      | (with_reducible exact ih0 _ _ _)
      | (with_reducible exact repriseref1_Row.mono _ _)
      | (with_reducible exact LeO.refl _)
      | (with_reducible exact LeO.none _)
      | (with_reducible refine LeO.ite ?_ ?_)
      | (with_reducible refine LeO.bind ?_ (fun _ => ?_))
      | exact ih0 _ _ _
      | exact repriseref1_Row.mono _ _
      | exact LeO.none _
      | refine LeO.ite ?_ ?_
      | refine LeO.bind ?_ (fun _ => ?_)
theorem repriseref1_More.mono : ∀ a0 a1 k, LeO (repriseref1_More.f k a0 a1) (repriseref1_More.f (k + 1) a0 a1) := by
  intro a0 a1 k
  have ih0 := repriseref1_More.mono_l k
  unfold repriseref1_More.f
  repeat' first
      | (with_reducible exact ih0 _ _ _)
      | (with_reducible exact repriseref1_Row.mono _ _)
      | (with_reducible exact LeO.refl _)
      | (with_reducible exact LeO.none _)
      | (with_reducible refine LeO.ite ?_ ?_)
      | (with_reducible refine LeO.bind ?_ (fun _ => ?_))
      | exact ih0 _ _ _
      | exact repriseref1_Row.mono _ _
      | exact LeO.none _
      | refine LeO.ite ?_ ?_
      | refine LeO.bind ?_ (fun _ => ?_)
set_option maxHeartbeats 8000000 in
set_option maxRecDepth 100000 in
theorem repriseref1_More.calls (k : Nat) (a0 : Int) (A1 : Option Addr) (c1 : Nat) (l1 : List Int) (r : Int) (w : World) (hr1 : Kd.C (Kd.int .u8) w A1 l1.length l1) (hc1 : l1.length ≤ c1) (h : repriseref1_More.f k a0 l1 = some r) :
    Calls Try.prog 14 #[.int .u32 a0, .slice A1 l1.length c1] w fun e w' => e = .returned (.int .u32 r) ∧ Drawn0 w w' := by
  have HR1 := Aside0.mk hr1
  have HC1 := Aside0.mk hc1
  clear hr1 hc1
  have H : (repriseref1_More.l0 k (Go.bits .xor .u32 4294967295 a0) l1 0) = some r := h
  clear h
  have H' := Aside0.mk H
  clear H
  go_enter Try.func14, Try.ntmps14
  go_wp2
  go_loopg [0, 5] k (fun kq v0 v5 w' => ∃ (x0_1 : Int) (x5_1 : Int), v0 = .int .u32 x0_1 ∧ v5 = .int .i64 x5_1 ∧ Aside0 (repriseref1_More.l0 kq x0_1 l1 x5_1 = some r) ∧ Aside0 (kq ≤ k) ∧ Drawn0 w w')
  case atStart => exact ⟨(Go.bits .xor .u32 4294967295 a0), (0), (by first | rfl | (simp; done) | (simp [*]; done)), (by first | rfl | (simp; done) | (simp [*]; done)), H', ⟨Nat.le_refl _⟩, by repeat (first | exact Drawn0.refl _ | apply Drawn0.step)⟩
  case round =>
    clear H'
    try clear c1
    try clear p2
    obtain ⟨x0_1, x5_1, rfl, rfl, HA, HK1, ⟨m1, rfl⟩⟩ := hrel
    cases gk with
    | zero => exact absurd HA.out (by simp [repriseref1_More.l0])
    | succ k1 =>
      have H := HA.out
      clear HA
      simp only [repriseref1_More.l0] at H
      by_cases c3 : x5_1 < (l1.length : Int)
      · rw [if_pos c3] at H
        have c3b0 : decide (x5_1 < (l1.length : Int)) = true := decide_eq_true c3
        clear c3
        by_cases c4 : 0 ≤ x5_1
        · rw [if_pos c4] at H
          have c4b0 : decide (0 ≤ x5_1) = true := decide_eq_true c4
          clear c4
          replace H := Option.bind_eq_some_iff.mp H
          obtain ⟨t106, A50, H⟩ := H
          replace H : (repriseref1_More.l0 k1 (Go.bits .xor .u32 t106 (x0_1 / 256)) l1 (wrap64 (x5_1 + 1))) = some r := H
          have A5 := Aside0.mk A50
          clear A50
          have H' := Aside0.mk H
          clear H
          have p105 : 0 ≤ (x5_1 : Int) := of_decide_eq_true (by first | (with_reducible assumption) | assumption)
          have q105 : x5_1 < (l1.length : Int) := of_decide_eq_true (by first | (with_reducible assumption) | assumption)
          obtain ⟨ad105, e105, hx105_0⟩ := Kd.at_int HR1.out x5_1 p105 q105
          cases e105
          replace p105 := eq_true p105
          replace q105 := eq_true q105
          go_wp2_with (first | ((with_reducible refine gate_callee (f := 15) rfl ?_); refine goesL_ (some 22) rfl rfl Try.func15 (by kernel_rfl) rfl #[.int .i64 (wrap64 (Go.bits .xor .u8 ((x0_1) % 256) (rd l1 x5_1)))] rfl (by (try simp only [List.map_toArray, List.map_cons, List.map_nil]); first | done | rfl | (simp only [List.length_drop, List.length_take]; rfl)) ?_; (with_reducible refine (repriseref1_Row.calls k1 (wrap64 (Go.bits .xor .u8 ((x0_1) % 256) (rd l1 x5_1))) t106 _ A5.out).mono ?_); rintro e w' ⟨rfl, ⟨nd, rfl⟩⟩; refine ⟨_, rfl, ?_⟩))
          go_roundg k1
          case measure => have := HK1.out; omega
          case rel => exact ⟨(Go.bits .xor .u32 t106 (x0_1 / 256)), (wrap64 (x5_1 + 1)), (by first | rfl | (simp; done) | (simp [*]; done)), (by first | rfl | (simp; done) | (simp [*]; done)), H', ⟨by have := HK1.out; omega⟩, by repeat (first | exact Drawn0.refl _ | apply Drawn0.step)⟩
        · rw [if_neg c4] at H
          exact absurd H (by simp)
      · rw [if_neg c3] at H
        have c3b0 : decide (x5_1 < (l1.length : Int)) = false := decide_eq_false c3
        clear c3
        obtain rfl := Option.some.inj H
        go_wp2
        go_ret
        exact ⟨by first | rfl | (simp; done) | (simp [*]; done), by repeat (first | exact Drawn0.refl _ | apply Drawn0.step)⟩

/-! ### repriseref1_Sum: function 12 -/
def repriseref1_Sum.f (k : Nat) (l0 : List Int) : Option (Int) := (repriseref1_More.f k 0 l0).bind fun t107 => (some t107)
theorem repriseref1_Sum.mono : ∀ a0 k, LeO (repriseref1_Sum.f k a0) (repriseref1_Sum.f (k + 1) a0) := by
  intro a0 k
  unfold repriseref1_Sum.f
  repeat' first
      | (with_reducible exact repriseref1_More.mono _ _ _)
      | (with_reducible exact LeO.refl _)
      | (with_reducible exact LeO.none _)
      | (with_reducible refine LeO.ite ?_ ?_)
      | (with_reducible refine LeO.bind ?_ (fun _ => ?_))
      | exact repriseref1_More.mono _ _ _
      | exact LeO.none _
      | refine LeO.ite ?_ ?_
      | refine LeO.bind ?_ (fun _ => ?_)
set_option maxHeartbeats 8000000 in
set_option maxRecDepth 100000 in
theorem repriseref1_Sum.calls (k : Nat) (A0 : Option Addr) (c0 : Nat) (l0 : List Int) (r : Int) (w : World) (hr0 : Kd.C (Kd.int .u8) w A0 l0.length l0) (hc0 : l0.length ≤ c0) (h : repriseref1_Sum.f k l0 = some r) :
    Calls Try.prog 12 #[.slice A0 l0.length c0] w fun e w' => e = .returned (.int .u32 r) ∧ Drawn0 w w' := by
  have HR0 := Aside0.mk hr0
  have HC0 := Aside0.mk hc0
  clear hr0 hc0
  have H : ((repriseref1_More.f k 0 l0).bind fun t107 => (some t107)) = some r := h
  clear h
  replace H := Option.bind_eq_some_iff.mp H
  obtain ⟨t107, A20, H⟩ := H
  replace H : (some t107) = some r := H
  have A2 := Aside0.mk A20
  clear A20
  obtain rfl := Option.some.inj H
  go_enter Try.func12, Try.ntmps12
  go_wp2_with (first | ((with_reducible refine gate_callee (f := 14) rfl ?_); refine goesL_ (some 4) rfl rfl Try.func14 (by kernel_rfl) rfl #[.int .u32 0, .slice A0 l0.length c0] rfl (by (try simp only [List.map_toArray, List.map_cons, List.map_nil]); first | done | rfl | (simp only [List.length_drop, List.length_take]; rfl)) ?_; (with_reducible refine (repriseref1_More.calls k 0 _ _ l0 t107 _ ?side1 ?side2 A2.out).mono ?_); (case side1 => repeat (first | exact HR0.out | (with_reducible refine Kd.C_alloc ?_ _) | (with_reducible refine Kd.C_drewN ?_ _) | (with_reducible refine Kd.C_drew ?_))); (case side2 => exact HC0.out); rintro e w' ⟨rfl, ⟨nd, rfl⟩⟩; refine ⟨_, rfl, ?_⟩))
  go_ret
  exact ⟨by first | rfl | (simp; done) | (simp [*]; done), by repeat (first | exact Drawn0.refl _ | apply Drawn0.step)⟩

/-! ### repriseref1_Four: function 17 -/
def repriseref1_Four.f (a0 : Int) : Option (List Int) := some (([(a0) % 256, (a0 / 256) % 256, (a0 / 65536) % 256, (a0 / 16777216) % 256] : List Int))
set_option maxHeartbeats 8000000 in
set_option maxRecDepth 100000 in
theorem repriseref1_Four.calls (a0 : Int) (r : List Int) (w : World) (h : repriseref1_Four.f a0 = some r) :
    Calls Try.prog 17 #[.int .u32 a0] w fun e w' => ∃ v0_ : Value, e = .returned (v0_) ∧ Kd.R (Kd.int .u8) 5 w' w.heap.size (fun _ => True) v0_ r ∧ Below w.heap.size w w' := by
  have HB := Aside0.mk (Below.refl w.heap.size w)
  have H : (some (([(a0) % 256, (a0 / 256) % 256, (a0 / 65536) % 256, (a0 / 16777216) % 256] : List Int))) = some r := h
  clear h
  obtain ⟨y108, hy108⟩ : ∃ y_ : List Int, y_ = (([(a0) % 256, (a0 / 256) % 256, (a0 / 65536) % 256, (a0 / 16777216) % 256] : List Int)) := ⟨_, rfl⟩
  replace H : (some y108) = some r := by first | (rw [hy108]; with_reducible exact H) | (have H2_ := (Option.bind_some _ _).symm.trans H; rw [hy108]; with_reducible exact H2_) | (have H2_ := (Option.bind_some _ _).symm.trans H; with_reducible exact H2_) | with_reducible exact H | (rw [hy108]; exact H) | exact H
  have Ny108 := Aside0.mk hy108
  clear hy108
  obtain rfl := Option.some.inj H
  go_enter Try.func17, Try.ntmps17
  go_wp2_with (first | ((with_reducible refine gate_dst (N := 14) rfl ?_); refine Kd.R_lit (Kd.int .u8) _ 5 ?hg (N := 14) ?hd (xs := ([(a0) % 256, (a0 / 256) % 256, (a0 / 65536) % 256, (a0 / 16777216) % 256] : List Int)) (inner := [.int .u8 ((a0) % 256), .int .u8 ((a0 / 256) % 256), .int .u8 ((a0 / 65536) % 256), .int .u8 ((a0 / 16777216) % 256)]) (ok := fun _ => True) (okp := fun _ => True) ?hr ?hp (fun _ hk => hk) trivial (Below.refl _ _) (Nat.le_refl _) (by simp) ?_; (case hd => rfl); (case hg => rfl); (case hr => first | (go_simp; done) | (go_simp; rfl)); (case hp => exact (Reps.one (show Kd.M (Kd.int .u8) _ _ _ ((a0) % 256) [.int .u8 ((a0) % 256)] from rfl) (Reps.one (show Kd.M (Kd.int .u8) _ _ _ ((a0 / 256) % 256) [.int .u8 ((a0 / 256) % 256)] from rfl) (Reps.one (show Kd.M (Kd.int .u8) _ _ _ ((a0 / 65536) % 256) [.int .u8 ((a0 / 65536) % 256)] from rfl) (Reps.one (show Kd.M (Kd.int .u8) _ _ _ ((a0 / 16777216) % 256) [.int .u8 ((a0 / 16777216) % 256)] from rfl) (Reps.none _ _)))))); intro v109 w2 ho3 hb hg_ hnew_; clear hg_ hnew_; (first | rw [← Ny108.out] at ho3 | (simp only [Int.reduceToNat] at ho3; rw [← Ny108.out] at ho3)); have n0_ := Aside0.mk (Kd.R_lower ho3 (below_size (by repeat (first | (with_reducible first | exact HB.out | apply below_alloc | apply pw_below_drewN | apply below_drew1) | exact HB.out)))); have n1_ := Aside0.mk (below_step (by repeat (first | (with_reducible first | exact HB.out | apply below_alloc | apply pw_below_drewN | apply below_drew1) | exact HB.out)) hb); clear HB; have HO110 := n0_; have HB := n1_; clear n0_ n1_; clear hb ho3))
  go_ret
  exact ⟨_, by first | rfl | (simp [errW_none, errW_some] <;> rfl) | (simp [*, errW_none, errW_some] <;> rfl), by (with_reducible repeat (first | apply Kd.R_alloc | apply Kd.R_drewN | apply Kd.R_drew)); exact HO110.out, by repeat (first | (with_reducible first | exact HB.out | apply below_alloc | apply pw_below_drewN | apply below_drew1) | exact HB.out)⟩

/-! ### repriselaw2_CrcTells: function 3 -/
/-- what the law comes to, where all that it holds against one another is alike -/
def repriselaw2_CrcTells.f (k : Nat) (l0 : List Int) (a1 : Int) (a2 : Int) : Option Bool :=
  if (l0.length : Int) > 300 then some true
  else if (0 ≤ a1 ∧ a1 < 4294967296) ∧ (0 ≤ a2 ∧ a2 < 256) ∧ (∀ x ∈ l0, 0 ≤ x ∧ x < 256) ∧ repriseref1_Sum.f k l0 = some ((CrcW.moreI 0 l0 : Nat) : Int) ∧
    repriseref1_More.f k a1 l0 = some ((CrcW.moreI a1.toNat l0 : Nat) : Int) ∧ repriseref1_Row.f k (wrap64 a2) = some ((CrcM.F a2.toNat : Nat) : Int) then some true
  else none
theorem repriselaw2_CrcTells.alike {x y : Int} (h : x = y) : (x == y) = true := by rw [h]; simp
set_option maxHeartbeats 8000000 in
set_option maxRecDepth 1000000 in
theorem repriselaw2_CrcTells.calls (k : Nat) (A0 : Option Addr) (c0 : Nat) (l0 : List Int) (a1 : Int) (a2 : Int) (r : Bool) (w : World) (hr0 : Kd.C (Kd.int .u8) w A0 l0.length l0) (hc0 : l0.length ≤ c0) (h : repriselaw2_CrcTells.f k l0 a1 a2 = some r) :
    Calls Try.prog 3 #[.slice A0 l0.length c0, .int .u32 a1, .int .u8 a2] w fun e w' => e = .returned (.bool r) ∧ Below w.heap.size w w' := by
  have HR0 := Aside0.mk hr0
  have HC0 := Aside0.mk hc0
  clear hr0 hc0
  unfold repriselaw2_CrcTells.f at h
  by_cases hlen : (l0.length : Int) > 300
  · rw [if_pos hlen] at h
    obtain rfl := Option.some.inj h
    have hq : decide ((300 : Int) < (l0.length : Int)) = true := decide_eq_true hlen
    clear hlen
    go_enter Try.func3, Try.ntmps3
    go_wp2_with (go_at_call 9; refine (repriselaw2_known.calls true _ rfl).mono ?_; rintro e w1 ⟨rfl, hb1⟩)
    go_ret
    exact ⟨rfl, hb1⟩
  · rw [if_neg hlen] at h
    have hq : decide ((300 : Int) < (l0.length : Int)) = false := decide_eq_false hlen
    split at h
    case isFalse => cases h
    case isTrue hh =>
      obtain rfl := Option.some.inj h
      obtain ⟨h1, h2, hb, hS, hM, hR⟩ := hh
      have hs : crc_Sum.f l0 = some ((CrcW.moreI 0 l0 : Nat) : Int) := by
        unfold crc_Sum.f crc_More.f
        rw [if_pos ⟨by decide, by decide, hb⟩]; rfl
      have hm : crc_More.f a1 l0 = some ((CrcW.moreI a1.toNat l0 : Nat) : Int) := by
        unfold crc_More.f
        rw [if_pos ⟨h1.1, h1.2, hb⟩]
      have hf4 : crc_Four.f a1 = some ([a1 % 256, (a1 / 256) % 256, (a1 / 65536) % 256, (a1 / 16777216) % 256] : List Int) := rfl
      have hf5 : repriseref1_Four.f a1 = some ([a1 % 256, (a1 / 256) % 256, (a1 / 65536) % 256, (a1 / 16777216) % 256] : List Int) := rfl
      have hnat : a2.toNat < 256 := by omega
      obtain ⟨hv, hi⟩ := zero_of_info CrcW.info25
      have hone := CrcW.rowK_one 256
      have hz : (Try.prog.info? 25).map (·.size) = some (CrcW.rowK 256).size := by rw [CrcW.rowK_size]; exact hi
      have hz0 : (Array.replicate 256 (Value.int .u32 0)).size = (CrcW.rowK 256).size := by rw [CrcW.rowK_size, Array.size_replicate]
      have Hs := Aside0.mk hs
      have Hm := Aside0.mk hm
      have HS := Aside0.mk hS
      have HM := Aside0.mk hM
      have H4 := Aside0.mk hf4
      have H5 := Aside0.mk hf5
      have e64 : wrap64 a2 = a2 := by unfold wrap64; omega
      rw [e64] at hR
      have hw : IntKind.i64.wrap a2 = a2 := (i64_w a2).trans e64
      clear e64
      have HR := Aside0.mk hR
      have k1 := h2.1
      have k2 := h2.2
      generalize ((CrcW.moreI 0 l0 : Nat) : Int) = s at *
      generalize ((CrcW.moreI a1.toNat l0 : Nat) : Int) = m at *
      generalize hfr : ((CrcM.F a2.toNat : Nat) : Int) = fr at *
      have HF := Aside0.mk hfr
      generalize ([a1 % 256, (a1 / 256) % 256, (a1 / 65536) % 256, (a1 / 16777216) % 256] : List Int) = q4 at *
      clear hs hm hS hM hR hf4 hf5 hlen h1 h2 hb h hi hfr
      go_enter Try.func3, Try.ntmps3
      go_upto_region 6 with (first | (go_at_call 9; refine (repriselaw2_known.calls true _ rfl).mono ?_; rintro e w1 ⟨rfl, hb1⟩; have HB := Aside0.mk hb1; clear hb1) | (go_at_call 10; refine (CrcW.table_calls _).mono ?_; rintro e w2 ⟨rfl, hb2⟩) | (refine wpList_store_row rfl 25 _ _ rfl _ (CrcW.rowK 256) rfl rfl 25 (Array.replicate 256 (Value.int .u32 0)) (heap_alloc_last _ _) hz hz0 hone ?_))
      rw [World.setRow_alloc_new]
      clear hv hz hz0 hone
      have n0_ := Aside0.mk ((HB.out.trans (hb2.mono HB.out.size)).alloc (Nat.le_trans HB.out.size hb2.size) (.cells (CrcW.rowK 256) 25))
      have n1_ : Aside0 ((w2.alloc (.cells (CrcW.rowK 256) 25)).cell? ⟨w2.heap.size, a2.toNat, none⟩ = some (.int .u32 fr)) := ⟨by
        rw [cell_of_row _ w2.heap.size a2.toNat (CrcW.rowK 256) 25 (0, 0) (heap_alloc_last w2 _), CrcW.rowK_at 256 a2.toNat hnat, if_pos hnat, HF.out]⟩
      have n2_ : Aside0 (w2.heap.size < (w2.alloc (.cells (CrcW.rowK 256) 25)).heap.size) := ⟨by simp⟩
      have n3_ := Aside0.mk (Kd.C_below HR0.out n0_.out)
      clear HB hb2 HF
      have HB := n0_
      have HT := n1_.out
      have HL := n2_
      have HC := n3_
      clear n0_ n1_ n2_ n3_ HR0 hnat
      generalize w2.heap.size = g at *
      generalize w2.alloc (.cells (CrcW.rowK 256) 25) = W at *
      clear w2
      go_region_with (first | (go_at_call 11; refine (crc_Sum.calls A0 c0 l0 s _ (by repeat (first | (with_reducible exact HC.out) | (with_reducible refine Kd.C_alloc ?_ _) | (with_reducible refine Kd.C_drewN ?_ _) | (with_reducible refine Kd.C_drew ?_) | exact HC.out)) HC0.out Hs.out).mono ?_; rintro e w9 ⟨rfl, hb9⟩; have n0_ := Aside0.mk (below_step (by repeat (first | (with_reducible first | exact HB.out | apply below_alloc | apply pw_below_drewN | apply below_drew1) | exact HB.out)) hb9); have n1_ := Aside0.mk (Kd.C_below (by repeat (first | (with_reducible exact HC.out) | (with_reducible refine Kd.C_alloc ?_ _) | (with_reducible refine Kd.C_drewN ?_ _) | (with_reducible refine Kd.C_drew ?_) | exact HC.out)) hb9); have n2_ := Aside0.mk ((hb9.cell (p := ⟨g, a2.toNat, none⟩) (by simpa using HL.out)).trans (by simpa using HT)); have n3_ := Aside0.mk (Nat.lt_of_lt_of_le HL.out (by have := hb9.size; simpa using this)); clear HB HC HT HL hb9; have HB := n0_; have HC := n1_; have HT := n2_.out; have HL := n3_; clear n0_ n1_ n2_ n3_) | (go_at_call 12; refine (repriseref1_Sum.calls k A0 c0 l0 s _ (by repeat (first | (with_reducible exact HC.out) | (with_reducible refine Kd.C_alloc ?_ _) | (with_reducible refine Kd.C_drewN ?_ _) | (with_reducible refine Kd.C_drew ?_) | exact HC.out)) HC0.out HS.out).mono ?_; rintro e w9 ⟨rfl, ⟨nd, rfl⟩⟩) | (go_at_call 13; refine (crc_More.calls a1 A0 c0 l0 m _ (by repeat (first | (with_reducible exact HC.out) | (with_reducible refine Kd.C_alloc ?_ _) | (with_reducible refine Kd.C_drewN ?_ _) | (with_reducible refine Kd.C_drew ?_) | exact HC.out)) HC0.out Hm.out).mono ?_; rintro e w9 ⟨rfl, hb9⟩; have n0_ := Aside0.mk (below_step (by repeat (first | (with_reducible first | exact HB.out | apply below_alloc | apply pw_below_drewN | apply below_drew1) | exact HB.out)) hb9); have n1_ := Aside0.mk (Kd.C_below (by repeat (first | (with_reducible exact HC.out) | (with_reducible refine Kd.C_alloc ?_ _) | (with_reducible refine Kd.C_drewN ?_ _) | (with_reducible refine Kd.C_drew ?_) | exact HC.out)) hb9); have n2_ := Aside0.mk ((hb9.cell (p := ⟨g, a2.toNat, none⟩) (by simpa using HL.out)).trans (by simpa using HT)); have n3_ := Aside0.mk (Nat.lt_of_lt_of_le HL.out (by have := hb9.size; simpa using this)); clear HB HC HT HL hb9; have HB := n0_; have HC := n1_; have HT := n2_.out; have HL := n3_; clear n0_ n1_ n2_ n3_) | (go_at_call 14; refine (repriseref1_More.calls k a1 A0 c0 l0 m _ (by repeat (first | (with_reducible exact HC.out) | (with_reducible refine Kd.C_alloc ?_ _) | (with_reducible refine Kd.C_drewN ?_ _) | (with_reducible refine Kd.C_drew ?_) | exact HC.out)) HC0.out HM.out).mono ?_; rintro e w9 ⟨rfl, ⟨nd, rfl⟩⟩) | (go_at_call 15; refine (repriseref1_Row.calls k a2 fr _ HR.out).mono ?_; rintro e w9 ⟨rfl, ⟨nd, rfl⟩⟩) | (go_at_call 16; refine (crc_Four.calls a1 q4 _ H4.out).mono ?_; rintro e w9 ⟨v4, rfl, ho4, hb9⟩; have n0_ := Aside0.mk (below_step (by repeat (first | (with_reducible first | exact HB.out | apply below_alloc | apply pw_below_drewN | apply below_drew1) | exact HB.out)) hb9); have O4 := Aside0.mk ho4; have hcv4 := own_string (P := Try.prog) Try.underlying22 Try.underlying5 Try.underlying9 (Kd.own_of_R ho4); clear HB ho4 hb9 HC HT HL; have HB := n0_; clear n0_) | (go_at_call 17; refine (repriseref1_Four.calls a1 q4 _ H5.out).mono ?_; rintro e w9 ⟨v5, rfl, ho5, hb9⟩; have n0_ := Aside0.mk (below_step (by repeat (first | (with_reducible first | exact HB.out | apply below_alloc | apply pw_below_drewN | apply below_drew1) | exact HB.out)) hb9); have hcv5 := own_string (P := Try.prog) Try.underlying22 Try.underlying5 Try.underlying9 (Kd.own_of_R ho5); have hcv6 := own_string (P := Try.prog) Try.underlying22 Try.underlying5 Try.underlying9 (Kd.own_of_R (Kd.R_below (by (with_reducible repeat (first | apply Kd.R_alloc | apply Kd.R_drewN | apply Kd.R_drew)); exact O4.out) hb9)); clear HB ho5 hb9; have HB := n0_; clear n0_))
      all_goals
        go_wp2
        go_ret
        exact ⟨by first | rfl | (simp; done), by repeat (first | (with_reducible first | exact HB.out | apply below_alloc | apply pw_below_drewN | apply below_drew1) | exact HB.out)⟩

/-- THE ONE PURE STATEMENT of repriselaw2_CrcTells. -/
def repriselaw2_CrcTells.Pure : Prop := ∀ (l0 : List Int) (a1 : Int) (a2 : Int), l0.length ≤ maxLen → l0.length * 1 ≤ 140737488351232 → (∀ x ∈ l0, (Lit.int .u8 x).wf = true) → (Lit.int .u32 a1).wf = true → (Lit.int .u8 a2).wf = true → ∃ k, repriselaw2_CrcTells.f k l0 a1 a2 = some true
theorem repriselaw2_CrcTells.walk (P : repriselaw2_CrcTells.Pure) (a0 : Option Addr) (len0 cap0 : Nat) (z0 : List Int) (a1 : Int) (a2 : Int) (w : World) (w0 : (a0 = none ∧ len0 = 0 ∧ cap0 = 0 ∧ z0 = []) ∨ ∃ x, a0 = some x ∧ len0 ≤ cap0 ∧ cap0 ≤ maxLen ∧ z0.length = cap0 ∧ (∀ i, i < z0.length → w.cell? (x.add i) = some (.int .u8 (z0.getD i 0))) ∧ ∀ n ∈ z0, (Lit.int .u8 n).wf = true) (y0 : len0 * 1 ≤ 140737488351232) (w1 : (Lit.int .u32 a1).wf = true) (w2 : (Lit.int .u8 a2).wf = true) :
    Calls Try.prog 3 #[.slice a0 len0 cap0, .int .u32 a1, .int .u8 a2] w fun e w' => e = .returned (.bool true) ∧ Below w.heap.size w w' := by
  obtain ⟨l0, rfl, hr0, hm0, hw0, hc0⟩ := ReadsInt.ofRowC w0
  obtain ⟨k, h⟩ := P l0 a1 a2 hm0 y0 hw0 w1 w2
  refine (repriselaw2_CrcTells.calls k _ _ l0 a1 a2 true w (Kd.C_of_reads (d := (0 : Int)) (h1 := fun _ => rfl) hr0) hc0 h).mono ?_
  rintro e w' ⟨rfl, hd⟩
  exact ⟨rfl, hd⟩

end Go.Proofs.Ytkgdmbddenfkpaa.QCrcTells
