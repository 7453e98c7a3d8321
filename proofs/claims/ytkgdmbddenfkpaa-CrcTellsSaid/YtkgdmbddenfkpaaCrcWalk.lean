/- The walks of package crc's functions that hold an array by value: one, Table, More; for every sum and all bytes. -/
import Derived.Test.YtkgdmbddenfkpaaProg
import Derived.Test.YtkgdmbddenfkpaaCrcMath
import Derived.Test.YtkgdmbddenfkpaaWMore
import Derived.WalkKit
import Derived.Deep.LoopGhost
import Derived.Deep.WholeRow
import Derived.Laws.BitsAllLaws
import Derived.Laws.ResultCell
import Derived.Outline
namespace Go.Proofs.Ytkgdmbddenfkpaa.CrcW
open Go.RowKit Go.Proofs.YtkgdmbddenfkpaaW.PrintWords Go.Proofs.YtkgdmbddenfkpaaW.PrintLast Go.Proofs.YtkgdmbddenfkpaaW.PrintMore
/-- n steps -/
def stn : Nat → Nat → Nat
  | 0, c => c
  | n + 1, c => CrcM.st (stn n c)
theorem stn_lt (n c : Nat) (h : c < 4294967296) : stn n c < 4294967296 := by
  induction n with
  | zero => exact h
  | succ n ih => exact CrcM.st_lt _ ih
theorem stn8 (c : Nat) : stn 8 c = CrcM.F c := rfl
theorem and1 (c : Nat) (h : c < 4294967296) : Go.bits .and .u32 (c : Int) 1 = ((c % 2 : Nat) : Int) := by
  rw [show (1 : Int) = ((1 : Nat) : Int) from rfl, u32_and_nat c 1 h (by decide), Nat.and_one_is_mod]
theorem xorp (c : Nat) (h : c < 4294967296) : Go.bits .xor .u32 (c : Int) 3988292384 = ((c ^^^ 3988292384 : Nat) : Int) := by
  rw [show (3988292384 : Int) = ((3988292384 : Nat) : Int) from rfl, u32_xor_nat c _ h (by decide)]
set_option maxHeartbeats 1000000 in
theorem one_calls (c : Nat) (hc : c < 4294967296) (w : World) :
    Calls Try.prog 23 #[.int .u32 c] w fun e w' => e = .returned (.int .u32 ((CrcM.F c : Nat) : Int)) ∧ w = w' := by
  go_enter Try.func23, Try.ntmps23
  go_wp2
  go_loopg [0, 4] 8 (fun g v0 v4 wx => ∃ i : Nat, i + g = 8 ∧ v0 = .int .u32 ((stn i c : Nat) : Int) ∧ v4 = .int .i64 (i : Int) ∧ wx = w)
  case atStart => exact ⟨0, by omega, rfl, rfl, rfl⟩
  case round =>
    obtain ⟨i, hig, rfl, rfl, rfl⟩ := hrel
    cases gk with
    | zero =>
      obtain rfl : i = 8 := by omega
      go_wp2
      go_ret
      exact ⟨rfl, rfl⟩
    | succ g =>
      have hi : (i : Int) < 8 := by omega
      have hb := stn_lt i c hc
      obtain ⟨x, hx⟩ : ∃ x, stn i c = x := ⟨_, rfl⟩
      have hs : stn (i + 1) c = CrcM.st x := by rw [← hx]; rfl
      rw [hx] at hb ⊢
      have Hs := Aside0.mk hs
      have Hx := Aside0.mk hx
      have Hg := Aside0.mk hig
      clear hs hx hig
      have e1 := and1 x hb
      have e2 : Go.bits .xor .u32 ((x : Int) / 2) 3988292384 = ((x / 2 ^^^ 3988292384 : Nat) : Int) := xorp (x / 2) (by omega)
      rcases Nat.mod_two_eq_zero_or_one x with h2 | h2
      · rw [h2] at e1
        have Hst : Aside0 (CrcM.st x = x / 2) := ⟨by unfold CrcM.st; rw [if_neg (by omega)]⟩
        clear e2 h2
        go_wp2
        go_roundg g
        case measure => omega
        case rel => exact ⟨i + 1, by have := Hg.out; omega, by first | (rw [Hs.out, Hst.out]; done) | (rw [Hs.out, Hst.out]; simp), by first | rfl | simp, rfl⟩
      · rw [h2] at e1
        have Hst : Aside0 (CrcM.st x = (x / 2) ^^^ 3988292384) := ⟨by unfold CrcM.st; rw [if_pos h2]⟩
        clear h2
        go_wp2
        go_roundg g
        case measure => omega
        case rel => exact ⟨i + 1, by have := Hg.out; omega, by first | (rw [Hs.out, Hst.out]; done) | (rw [Hs.out, Hst.out]; simp), by first | rfl | simp, rfl⟩
/-- the table, as far as it is filled -/
def rowK : Nat → Array Value
  | 0 => Array.replicate 256 (.int .u32 0)
  | k + 1 => (rowK k).setIfInBounds k (.int .u32 ((CrcM.F k : Nat) : Int))
theorem rowK_size (k : Nat) : (rowK k).size = 256 := by
  induction k with
  | zero => simp [rowK]
  | succ k ih => simp [rowK, ih]
theorem rowK_at (k j : Nat) (hj : j < 256) : (rowK k)[j]? = some (.int .u32 (if j < k then ((CrcM.F j : Nat) : Int) else 0)) := by
  induction k with
  | zero => simp [rowK, hj]
  | succ k ih =>
    rw [rowK, Array.getElem?_setIfInBounds]
    by_cases h : k = j
    · subst h; rw [if_pos rfl, if_pos (by rw [rowK_size]; exact hj), if_pos (by omega)]
    · rw [if_neg h, ih]
      by_cases h2 : j < k
      · rw [if_pos h2, if_pos (by omega)]
      · rw [if_neg h2, if_neg (by omega)]
theorem rowK_one (k : Nat) : (rowK k).all (·.oneCell') = true := by
  rw [Array.all_eq_true]
  intro i hi
  rw [rowK_size] at hi
  have := rowK_at k i hi
  rw [Array.getElem?_eq_some_iff] at this
  obtain ⟨_, h⟩ := this
  rw [h]; rfl
theorem setRow_alloc2 (w : World) (c c' : Array Value) (t : TypeId) (o : Obj) : ((w.alloc (.cells c t)).alloc o).setRow w.heap.size c' = (w.alloc (.cells c' t)).alloc o := by
  simp only [World.setRow, World.alloc]
  congr 1
  apply Array.ext_getElem?
  intro i
  rw [Array.getElem?_modify]
  by_cases h : w.heap.size = i
  · subst h
    simp [Array.getElem?_push]
  · have h' : ¬ i = w.heap.size := fun e => h e.symm
    simp [h, h', Array.getElem?_push]
theorem blk2 (w : World) (o o2 : Obj) : ((w.alloc o).alloc o2).heap[w.heap.size]? = some o := by
  show ((w.heap.push o).push o2)[w.heap.size]? = some o
  simp [Array.getElem?_push]
theorem blk1 (w : World) (o o2 : Obj) : ((w.alloc o).alloc o2).heap[w.heap.size + 1]? = some o2 := by
  have := heap_alloc_last (w.alloc o) o2
  simpa using this
theorem info25 : (Try.prog.info? 25).map (fun i => (i.zero, i.size)) = some (some (.agg (Array.replicate 256 (.int .u32 0))), 256) := by kernel_rfl
set_option maxHeartbeats 4000000 in
set_option maxRecDepth 1000000 in
theorem table_calls (w : World) :
    Calls Try.prog 10 #[] w fun e w' => e = .returned (.agg (rowK 256)) ∧ Below w.heap.size w w' := by
  obtain ⟨hv, hi⟩ := zero_of_info info25
  have hu := Try.underlying25
  go_enter Try.func10, Try.ntmps10
  go_wp2
  rw [show Array.replicate 256 (Value.int .u32 0) = rowK 0 from rfl]
  go_loopg [3] 256 (fun g s3 wx => ∃ i : Nat, i + g = 256 ∧ s3 = .int .i64 (i : Int) ∧ wx = (w.alloc (.cells (rowK 0) 25)).alloc (.cells (rowK i) 25))
  case atStart => exact ⟨0, by omega, rfl, rfl⟩
  case round =>
    obtain ⟨i, hig, rfl, rfl⟩ := hrel
    cases gk with
    | zero =>
      obtain rfl : i = 256 := by omega
      have hsz := rowK_size 256
      have hsz0 := rowK_size 0
      clear hv hu hi
      have hone := rowK_one 256
      have hb1 := blk1 w (.cells (rowK 0) 25) (.cells (rowK 256) 25)
      have hb0 := blk2 w (.cells (rowK 0) 25) (.cells (rowK 256) 25)
      have hb2 := blk2 w (.cells (rowK 256) 25) (.cells (rowK 256) 25)
      have hz : (Try.prog.info? 25).map (·.size) = some (rowK 256).size := by rw [hsz]; exact (zero_of_info info25).2
      have hz0 : (rowK 0).size = (rowK 256).size := by rw [hsz, hsz0]
      clear hsz hsz0
      go_wp2_with (first | (refine wpList_load_row rfl 25 _ rfl (w.heap.size + 1) rfl 25 (rowK 256) (0, 0) _ hb1 Try.underlying25 rfl hz ?_) | (refine wpList_store_row rfl 25 _ _ rfl w.heap.size (rowK 256) rfl rfl 25 (rowK 0) hb0 hz hz0 hone ?_))
      rw [setRow_alloc2]
      refine bodyPost_ret (v := .agg (rowK 256)) ?_ rfl ⟨rfl, ((Below.refl _ _).alloc (Nat.le_refl _) _).alloc (by simp) _⟩
      exact results_cell_row rfl _ _ w.heap.size 25 (rowK 256) (0, 0) _ rfl hb2 Try.underlying25 rfl hz
    | succ g =>
      have hi1 : (i : Int) < 256 := by omega
      have hcell := rowK_at i i (by omega)
      rw [if_neg (by omega)] at hcell
      have Hs : Aside0 (rowK (i + 1) = (rowK i).setIfInBounds i (.int .u32 ((CrcM.F i : Nat) : Int))) := ⟨rfl⟩
      have Hg := Aside0.mk hig
      have h32 : (i : Int) % 4294967296 = i := by omega
      have hlt : i < 4294967296 := by omega
      clear hig
      go_wp2_with (go_at_call 23; refine (one_calls i hlt _).mono ?_; rintro e w' ⟨rfl, rfl⟩)
      go_roundg g
      case measure => omega
      case rel => exact ⟨i + 1, by have := Hg.out; omega, by first | rfl | simp, by rw [Hs.out]⟩
/-- bytes as natural numbers -/
def nb (l : List Int) : List Nat := l.map Int.toNat
def moreI (a : Nat) (l : List Int) : Nat := 4294967295 ^^^ CrcM.run (4294967295 ^^^ a) (nb l)
theorem upd (c x : Nat) (hx : x < 256) : CrcM.F ((c % 256) ^^^ x) ^^^ (c / 256) = CrcM.F (c ^^^ x) := by
  rw [CrcM.F_table (c ^^^ x)]
  have e1 : (c ^^^ x) % 256 = (c % 256) ^^^ x := by
    rw [show (256 : Nat) = 2 ^ 8 from rfl, Nat.xor_mod_two_pow, Nat.mod_eq_of_lt (show x < 2 ^ 8 from hx)]
  have e2 : (c ^^^ x) / 256 = c / 256 := by
    rw [show (256 : Nat) = 2 ^ 8 from rfl, Nat.xor_div_two_pow, Nat.div_eq_of_lt (show x < 2 ^ 8 from hx), Nat.xor_zero]
  rw [e1, e2]
theorem byteN (l : List Int) (hb : ∀ x ∈ l, 0 ≤ x ∧ x < 256) (i : Nat) (hi : i < l.length) : ∃ x : Nat, x < 256 ∧ rd l (i : Int) = (x : Int) ∧ nb (l.take (i + 1)) = nb (l.take i) ++ [x] := by
  have hm := hb l[i] (List.getElem_mem hi)
  refine ⟨l[i].toNat, by omega, ?_, ?_⟩
  · unfold rd
    rw [Int.toNat_natCast, List.getD_eq_getElem?_getD, List.getElem?_eq_getElem hi, Option.getD_some]; omega
  · unfold nb
    rw [List.take_add_one, List.getElem?_eq_getElem hi, List.map_append]; rfl
theorem nb_lt (l : List Int) (hb : ∀ x ∈ l, 0 ≤ x ∧ x < 256) : ∀ x ∈ nb l, x < 256 := by
  intro x hx
  obtain ⟨y, hy, rfl⟩ := List.mem_map.1 hx
  have := hb y hy
  omega
theorem run_lt (c : Nat) (hc : c < 4294967296) (l : List Int) (hb : ∀ x ∈ l, 0 ≤ x ∧ x < 256) : CrcM.run c (nb l) < 4294967296 := CrcM.run_lt _ (nb_lt l hb) c hc
theorem max_xor (a : Nat) (ha : a < 4294967296) : Go.bits .xor .u32 IntKind.u32.max (a : Int) = ((4294967295 ^^^ a : Nat) : Int) := by
  rw [show IntKind.u32.max = ((4294967295 : Nat) : Int) from rfl]
  exact u32_xor_nat 4294967295 a (by decide) ha
set_option maxHeartbeats 4000000 in
set_option maxRecDepth 1000000 in
theorem more_calls (a : Nat) (ha : a < 4294967296) (A1 : Option Addr) (c1 : Nat) (l1 : List Int) (w : World) (hb : ∀ x ∈ l1, 0 ≤ x ∧ x < 256)
    (hr1 : Kd.C (Kd.int .u8) w A1 l1.length l1) :
    Calls Try.prog 13 #[.int .u32 (a : Int), .slice A1 l1.length c1] w fun e w' => e = .returned (.int .u32 ((moreI a l1 : Nat) : Int)) ∧ Below w.heap.size w w' := by
  obtain ⟨hv, hi⟩ := zero_of_info info25
  have hll := hr1.2.1
  have HR1 := Aside0.mk hr1
  have HB := Aside0.mk hb
  have hx0 : Go.bits .xor .u32 IntKind.u32.max (a : Int) = ((4294967295 ^^^ a : Nat) : Int) := max_xor a ha
  have hc : 4294967295 ^^^ a < 4294967296 := Nat.xor_lt_two_pow (n := 32) (by decide) ha
  have hm : moreI a l1 = 4294967295 ^^^ CrcM.run (4294967295 ^^^ a) (nb l1) := rfl
  generalize 4294967295 ^^^ a = c at *
  have HM := Aside0.mk hm
  clear hr1 hb hm
  have hone := rowK_one 256
  have hz : (Try.prog.info? 25).map (·.size) = some (rowK 256).size := by rw [rowK_size]; exact hi
  have hz0 : (Array.replicate 256 (Value.int .u32 0)).size = (rowK 256).size := by rw [rowK_size, Array.size_replicate]
  clear hi
  go_enter Try.func13, Try.ntmps13
  go_wp2_with (first | (go_at_call 10; refine (table_calls _).mono ?_; rintro e w1 ⟨rfl, hbel⟩) | (refine wpList_store_row rfl 25 _ _ rfl _ (rowK 256) rfl rfl 25 (Array.replicate 256 (Value.int .u32 0)) (heap_alloc_last _ _) hz hz0 hone ?_))
  rw [World.setRow_alloc_new]
  clear hv hz hz0 hone hx0
  have hbel2 : Below w.heap.size w (w1.alloc (.cells (rowK 256) 25)) := hbel.alloc hbel.size _
  have hcells : ∀ j : Nat, j < 256 → (w1.alloc (.cells (rowK 256) 25)).cell? ⟨w1.heap.size, j, none⟩ = some (.int .u32 ((CrcM.F j : Nat) : Int)) := by
    intro j hj
    rw [cell_of_row _ w1.heap.size j (rowK 256) 25 (0, 0) (heap_alloc_last w1 _), rowK_at 256 j hj, if_pos hj]
  have HC := Aside0.mk hcells
  have HBel := Aside0.mk hbel2
  have HR2 := Aside0.mk (Kd.C_below HR1.out hbel2)
  clear hcells hbel2 hbel HR1
  generalize w1.heap.size = g1 at *
  generalize w1.alloc (.cells (rowK 256) 25) = W at *
  clear w1
  go_loopg [0, 13] l1.length (fun g v0 v13 wx => ∃ i : Nat, i + g = l1.length ∧ v0 = .int .u32 ((CrcM.run c (nb (l1.take i)) : Nat) : Int) ∧ v13 = .int .i64 (i : Int) ∧ wx = W)
  case atStart => exact ⟨0, by omega, by first | rfl | simp, rfl, rfl⟩
  case round =>
    obtain ⟨i, hig, rfl, rfl, rfl⟩ := hrel
    cases gk with
    | zero =>
      obtain rfl : i = l1.length := by omega
      rw [List.take_length]
      have hrl := run_lt c hc l1 HB.out
      have hx1 := max_xor _ hrl
      go_wp2
      go_ret
      exact ⟨by rw [HM.out]; first | rfl | (rw [← hx1]; rfl) | simp, HBel.out⟩
    | succ g =>
      have hi1 : i < l1.length := by omega
      obtain ⟨x, hx, hrd, htk⟩ := byteN l1 HB.out i hi1
      have hrl := run_lt c hc (l1.take i) (fun y hy => HB.out y (List.mem_of_mem_take hy))
      have Htk : Aside0 (CrcM.run c (nb (l1.take (i + 1))) = CrcM.F (CrcM.run c (nb (l1.take i)) % 256 ^^^ x) ^^^ (CrcM.run c (nb (l1.take i)) / 256)) := ⟨by rw [htk, CrcM.run_app, upd _ _ hx]; rfl⟩
      obtain ⟨ad, e, hcell⟩ := Kd.at_int HR2.out (i : Int) (by omega) (by omega)
      cases e
      rw [hrd, Int.toNat_natCast] at hcell
      have Hig := Aside0.mk hig
      clear hrd htk hig
      generalize hq : CrcM.run c (nb (l1.take i)) = q at *
      have Hq := Aside0.mk hq
      clear hq
      have hxor : Go.bits .xor .u8 ((q : Int) % 256) (x : Int) = ((q % 256 ^^^ x : Nat) : Int) := by
        rw [show (q : Int) % 256 = ((q % 256 : Nat) : Int) from by omega]
        exact u8_xor_nat (q % 256) x (by omega) hx
      have hidx : q % 256 ^^^ x < 256 := Nat.xor_lt_two_pow (n := 8) (by omega) hx
      generalize q % 256 ^^^ x = j at *
      have hjc := HC.out j hidx
      have hFj : CrcM.F j < 4294967296 := CrcM.F_lt j (by omega)
      have hxor2 : Go.bits .xor .u32 ((CrcM.F j : Nat) : Int) ((q : Int) / 256) = ((CrcM.F j ^^^ (q / 256) : Nat) : Int) := by
        rw [show (q : Int) / 256 = ((q / 256 : Nat) : Int) from by omega]
        exact u32_xor_nat _ (q / 256) hFj (by omega)
      have hidx2 : (j : Int) < 256 := by omega
      have hi2 : (i : Int) < (l1.length : Int) := by omega
      go_wp2
      go_roundg g
      case measure => omega
      case rel => exact ⟨i + 1, by have := Hig.out; omega, by rw [Htk.out], by first | rfl | simp, rfl⟩
end Go.Proofs.Ytkgdmbddenfkpaa.CrcW
