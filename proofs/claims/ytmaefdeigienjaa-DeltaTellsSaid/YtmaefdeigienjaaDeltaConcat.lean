/- slices.Grow of nothing, slices.Concat of rows of bytes: the walks. -/
import Derived.Test.YtmaefdeigienjaaDeltaBest
import Derived.Lib.AppendZerosOnto
namespace Go.Proofs.Ytmaefdeigienjaa.DeltaM
open Go Go.RowKit Go.Maps Go.Proofs.YtmaefdeigienjaaW.PrintWords Go.Proofs.YtmaefdeigienjaaW.PrintLast Go.Proofs.YtmaefdeigienjaaW.PrintMore
attribute [local go_sem] max2_int min2_int max_two min_two max_three min_three max_four min_four
set_option linter.unusedVariables false
set_option linter.unusedSimpArgs false

set_option maxHeartbeats 8000000 in
set_option maxRecDepth 100000 in
theorem grow_calls (n : Nat) (w : World) (hn : n ≤ 1000000000) :
    Calls Try.prog 58 #[.slice none 0 0, .int .i64 n] w fun e w' => ∃ v, e = .returned v ∧ Kd.R (Kd.int .u8) 5 w' w.heap.size (fun _ => True) v [] ∧ Below w.heap.size w w' := by
  have h1 : ¬ ((n : Int) < 0) := by omega
  have h3 : wrap64 ((n : Int) - (wrap64 ((0 : Int) - 0))) = (n : Int) := by unfold wrap64; omega
  rcases Nat.eq_zero_or_pos n with h0 | h0
  · subst h0
    have h4 : wrap64 0 = 0 := by unfold wrap64; omega
    go_enter Try.func58, Try.ntmps58
    go_wp2
    go_ret
    exact ⟨_, rfl, Kd.R_nil _ _ _ _ _, Below.refl _ _⟩
  · obtain ⟨i0, hi, hz0, hz1, hz2⟩ := info_parts info5
    have h4 : decide ((n : Int) > 0) = true := decide_eq_true (by omega)
    have hrz : ∀ ty, (Builtin.append_ #[22, 3] ty #[.slice none 0 0, .int .i64 n]).run Try.prog w = .ok (.slice (some ⟨w.heap.size, 0, none⟩) n (grownCap w n 0 5)) (w.drew.alloc (.cells ((#[] : Array Value) ++ Builtin.zeroCells (Value.int .u8 0).cells n ++ Builtin.zeroCells (Value.int .u8 0).cells (grownCap w n 0 5 - n)) 5)) := fun ty => by
      have h := Lib.run_append_grow_zeros w 22 3 ty 5 i0 (.int .u8 0) .i64 .i64 Try.underlying22 Try.underlying3 hi hz0 none 0 0 [] (run_firstCells_none w.drew i0.size 0 0 0) n h0 (by rw [hz1]; decide) (by omega) (by omega) (by rw [hz2]; omega)
        (growslice_fits (by omega) (by rw [hz2]; omega))
      simpa using h
    have hGn : n ≤ grownCap w n 0 5 := grownCap_ge w _ _ _
    have hGm : grownCap w n 0 5 ≤ maxLen := grownCap_le_maxLen w n 0 5 (by unfold maxLen; omega)
    generalize grownCap w n 0 5 = G at *
    have hG63 : G ≤ 9223372036854775807 := by unfold maxLen at hGm; omega
    have hs : ((#[] : Array Value) ++ Builtin.zeroCells (Value.int .u8 0).cells n ++ Builtin.zeroCells (Value.int .u8 0).cells (G - n)).size = G * 1 := by
      simp [size_zeroCells, Value.cells]
      omega
    generalize (#[] : Array Value) ++ Builtin.zeroCells (Value.int .u8 0).cells n ++ Builtin.zeroCells (Value.int .u8 0).cells (G - n) = cur at *
    have hR : Kd.R (Kd.int .u8) 5 (w.drew.alloc (.cells cur 5)) w.heap.size (fun _ => True) (.slice (some ⟨w.heap.size, 0, none⟩) 0 G) [] := Kd.R_of_own (World.ownsRow_made w.drew cur G (Nat.le_refl _) hGm hs) (fun _ _ => trivial)
    go_enter Try.func58, Try.ntmps58
    go_wp2_with (at_builtin; refine Lib.wpList_append_run _ rfl _ _ _ _ rfl _ _ rfl rfl _ _ (hrz _) ?_)
    go_ret
    exact ⟨_, rfl, hR, (Below.refl _ _).drew.alloc (Nat.le_refl _) _⟩

/-- slices, each read -/
abbrev Sl := Option Addr × Nat × List Int
def cat (vs : List Sl) : List Int := vs.flatMap (·.2.2)
theorem cat_take {vs : List Sl} {k : Nat} (h : k < vs.length) : cat (vs.take (k + 1)) = cat (vs.take k) ++ vs[k].2.2 := by
  unfold cat
  rw [List.take_succ_eq_append_getElem h, List.flatMap_append]
  simp
theorem cat_len (vs : List Sl) (k : Nat) : (cat (vs.take k)).length ≤ (cat vs).length := by
  conv => rhs; rw [← List.take_append_drop k vs]
  unfold cat
  rw [List.flatMap_append, List.length_append]
  omega

set_option maxHeartbeats 8000000 in
set_option maxRecDepth 100000 in
theorem concat_calls (ad : Addr) (c : Nat) (vs : List Sl) (w : World) (hcell : ∀ j (h : j < vs.length), w.cell? (ad.add j) = some (.slice vs[j].1 vs[j].2.2.length vs[j].2.1))
    (hC : ∀ x ∈ vs, Kd.C (Kd.int .u8) w x.1 x.2.2.length x.2.2) (htot : (cat vs).length ≤ 1000000000) (hvs : vs.length ≤ 1000000) (hc : vs.length ≤ c) :
    Calls Try.prog 47 #[.slice (some ad) vs.length c] w fun e w' => ∃ v, e = .returned v ∧ Kd.R (Kd.int .u8) 5 w' w.heap.size (fun _ => True) v (cat vs) ∧ Below w.heap.size w w' := by
  have HC := Aside0.mk hC
  have HT := Aside0.mk htot
  clear hC htot
  go_enter Try.func47, Try.ntmps47
  go_wp2
  go_loopw [3, 11] (fun v3 v11 wl => ∃ k : Nat, v3 = .int .i64 (cat (vs.take k)).length ∧ v11 = .int .i64 k ∧ k ≤ vs.length ∧ Drawn0 w wl)
    (fun _ i _ => vs.length - (intOf i).toNat)
  case atStart => exact ⟨0, by simp [cat], rfl, Nat.zero_le _, by repeat (first | exact Drawn0.refl _ | apply Drawn0.step)⟩
  case round =>
    obtain ⟨k, rfl, rfl, hk, ⟨md, rfl⟩⟩ := hrel
    by_cases hlt : k < vs.length
    · have hd3 : decide ((k : Int) < (vs.length : Int)) = true := by simp; omega
      have hcl := hcell k hlt
      have htk := cat_take hlt
      have h1 := cat_len vs (k + 1)
      rw [htk, List.length_append] at h1
      have h2 := HT.out
      have ew : wrap64 ((k : Int) + 1) = ((k + 1 : Nat) : Int) := by unfold wrap64; omega
      have ew2 : wrap64 (((cat (vs.take k)).length : Int) + (vs[k].2.2.length : Int)) = ((cat (vs.take (k + 1))).length : Int) := by rw [htk, List.length_append]; unfold wrap64; omega
      have hneg : ¬ (((cat (vs.take (k + 1))).length : Int) < 0) := by omega
      clear h1 h2 htk
      generalize hx : vs[k] = x at *
      obtain ⟨xa, xc, xl⟩ := x
      simp only at hcl ew2
      generalize (cat (vs.take k)).length = s at *
      generalize hs' : (cat (vs.take (k + 1))).length = s' at *
      go_wp2
      exact ⟨⟨k + 1, by rw [ew2, hs'], by simp, by omega, by repeat (first | exact Drawn0.refl _ | apply Drawn0.step)⟩, by simp only [intOf]; omega⟩
    · have hd3 : decide ((k : Int) < (vs.length : Int)) = false := by simp; omega
      obtain rfl : k = vs.length := by omega
      rw [List.take_length]
      have h2 := HT.out
      have HN := Aside0.mk h2
      clear h2
      have hsz : (w.drewN md).heap.size = w.heap.size := rfl
      have HCL := Aside0.mk hcell
      clear hcell
      have HB0 : Aside0 (Below w.heap.size w (w.drewN md)) := ⟨pw_below_drewN (Below.refl _ _) _⟩
      generalize w.drewN md = w1 at *
      go_wp2_with (fail)
      refine (grow_calls _ _ HN.out).mono ?_
      rintro e w2 ⟨v, rfl, hR, hB⟩
      have HR : Aside0 (Kd.R (Kd.int .u8) 5 w2 w.heap.size (fun _ => True) v []) := ⟨hsz ▸ hR⟩
      have HB2 : Aside0 (Below w.heap.size w w2) := ⟨below_step HB0.out hB⟩
      clear hR hB HB0 hd3 hlt hk
      go_wp2
      go_loopw [6, 27] (fun v6 v27 wl => ∃ k : Nat, v27 = .int .i64 k ∧ k ≤ vs.length ∧ Aside0 (Kd.R (Kd.int .u8) 5 wl w.heap.size (fun _ => True) v6 (cat (vs.take k))) ∧ Aside0 (Below w.heap.size w wl))
        (fun _ i _ => vs.length - (intOf i).toNat)
      case atStart => exact ⟨0, rfl, Nat.zero_le _, HR, HB2⟩
      case round =>
        obtain ⟨k, rfl, hk, HRk, HBw⟩ := hrel
        clear HR HB2
        by_cases hlt : k < vs.length
        · have hd3 : decide ((k : Int) < (vs.length : Int)) = true := by simp; omega
          have hcl := HCL.out k hlt
          have hcl2 : wr.cell? (ad.add k) = some (.slice vs[k].1 vs[k].2.2.length vs[k].2.1) := by rw [HBw.out.cell (World.block_lt_of_cell? _ _ hcl)]; exact hcl
          have HCk := Aside0.mk (Kd.C_below (HC.out vs[k] (List.getElem_mem hlt)) HBw.out)
          have htk := cat_take hlt
          have h1 := cat_len vs (k + 1)
          rw [htk, List.length_append] at h1
          have h2 := HN.out
          have hbd : (cat (vs.take k)).length + vs[k].2.2.length ≤ 1000000000 := by omega
          have HBD := Aside0.mk hbd
          have HTK := Aside0.mk htk
          clear h1 h2 htk hbd hcl
          generalize hx : vs[k] = x at *
          obtain ⟨xa, xc, xl⟩ := x
          simp only at hcl2
          generalize hys : cat (vs.take k) = ys at *
          go_wp2_with (first | ((with_reducible refine gate_builtin (b := .append) (xs := #[.tmp 31, .tmp 32]) rfl ?_); at_builtin; refine Kd.R_append_rows (Kd.int .u8) (w0 := w) w.heap.size rfl (.tmp 31) (.tmp 32) 22 5 (.int .u8 0) 1 rfl Try.underlying22 info5 rfl (by decide) (by omega) u6 ys xl _ _ _ (fun _ => True) (fun _ => False) rfl rfl ?aO ?aR (fun _ _ h => h) (fun _ h => h.elim) ?aF ?aB ?aS ?aL ?_; (case aR => exact HCk.out); (case aB => exact HBw.out); (case aF => exact (fun _ _ => trivial)); (case aO => exact HRk.out); (case aS => exact below_size HBw.out); (case aL => have := HBD.out; simp only at this; omega); intro v1 w3 ho hb hg hat; have HO3 := Aside0.mk ho; have HB3 := Aside0.mk hb; clear ho hb hg hat))
          exact ⟨⟨k + 1, by simp, by omega, ⟨by rw [HTK.out]; exact HO3.out⟩, HB3⟩, by simp only [intOf]; omega⟩
        · have hd3 : decide ((k : Int) < (vs.length : Int)) = false := by simp; omega
          obtain rfl : k = vs.length := by omega
          rw [List.take_length] at HRk
          go_wp2
          go_ret
          exact ⟨_, rfl, HRk.out, HBw.out⟩
end Go.Proofs.Ytmaefdeigienjaa.DeltaM
