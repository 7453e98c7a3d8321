/- Package delta: Make: what it comes to, and its walk. -/
import Derived.Test.YtmaefdeigienjaaDeltaConcat
import Derived.Test.YtmaefdeigienjaaLebMath
import Derived.Test.YtmaefdeigienjaaZigMath
namespace Go.Proofs.Ytmaefdeigienjaa.DeltaM
open Go Go.RowKit Go.Maps Go.Proofs.YtmaefdeigienjaaW.PrintWords Go.Proofs.YtmaefdeigienjaaW.PrintLast Go.Proofs.YtmaefdeigienjaaW.PrintMore
attribute [local go_sem] max2_int min2_int max_two min_two max_three min_three max_four min_four
set_option linter.unusedVariables false
set_option linter.unusedSimpArgs false

theorem put_l0 (k : Nat) : ∀ (n : Nat) (acc : List Int), n < 18446744073709551616 → (Leb.enc n).length ≤ k → acc.length + (Leb.enc n).length ≤ 140737488355328 →
    leb_Put.l0 k (n : Int) acc = some (acc ++ Leb.enc n) := by
  induction k with
  | zero => intro n acc _ h _; have := Leb.enc_pos n; omega
  | succ k ih =>
    intro n acc hn hk hl
    have hp := Leb.enc_pos n
    simp only [leb_Put.l0]
    by_cases h : n < 128
    · rw [if_neg (by omega), if_pos (by omega), Leb.enc_small n h, show (n : Int) % 256 = n from by omega]
    · rw [Leb.enc_big n h] at hk hl ⊢
      simp only [List.length_cons] at hk hl
      rw [if_pos (by omega), if_pos (by omega), Leb.or128, show (n : Int) / 128 = ((n / 128 : Nat) : Int) from by omega, show (n : Int) % 128 + 128 = ((n % 128 + 128 : Nat) : Int) from by omega,
        ih (n / 128) _ (by omega) (by omega) (by simp only [List.length_append, List.length_cons, List.length_nil]; omega)]
      simp
theorem put_f (n : Int) (h0 : 0 ≤ n) (h : n ≤ 18446744073709551615) : leb_Put.f 10 n = some (Leb.enc n.toNat) := by
  have h10 := Leb.enc_len10 n.toNat (by omega)
  have := put_l0 10 n.toNat [] (by omega) (by omega) (by simp only [List.length_nil]; omega)
  rw [show ((n.toNat : Nat) : Int) = n from by omega] at this
  simpa [leb_Put.f] using this

/-- a part of bytes -/
def lit (b : List Int) : List Int := if b.length = 0 then [] else Leb.enc (2 * b.length) ++ b
theorem lit_len (b : List Int) (h : b.length ≤ 100000) : (lit b).length ≤ b.length + 10 := by
  unfold lit
  split
  · simp
  · have := Leb.enc_len10 (2 * b.length) (by omega)
    simp; omega
theorem bytes_f (o b : List Int) (ho : o.length ≤ 10000000) (hb : b.length ≤ 100000) : delta_bytes.f 10 o b = some (o ++ lit b) := by
  unfold delta_bytes.f lit
  by_cases h : b.length = 0
  · rw [if_pos (by omega), if_pos h, List.append_nil]
  · rw [if_neg (by omega), if_neg h]
    have e : IntKind.u64.wrap (IntKind.u64.wrap (b.length : Int) * 2) = ((2 * b.length : Nat) : Int) := by rw [Zig.u64w, Zig.u64w]; omega
    have h10 := Leb.enc_len10 (2 * b.length) (by omega)
    rw [e, put_f _ (by omega) (by omega), Option.bind_some, Int.toNat_natCast, if_pos (by omega), Option.bind_some, if_pos (by simp only [List.length_append]; omega), List.append_assoc]

/-- what Make comes to -/
def mk (old new : List Int) : Nat → List Int → Nat → Nat → List Int
  | 0, out, frm, _ => out ++ lit (new.drop frm)
  | f + 1, out, frm, i =>
    if i < new.length then
      if (best old (new.drop i)).1 = 0 then mk old new f out frm (i + 1)
      else mk old new f (out ++ lit ((new.take i).drop frm) ++ Leb.enc (2 * (best old (new.drop i)).1.toNat + 1) ++ Leb.enc (best old (new.drop i)).2.toNat) (i + (best old (new.drop i)).1.toNat) (i + (best old (new.drop i)).1.toNat)
    else out ++ lit (new.drop frm)
def make (old new : List Int) : List Int := mk old new (new.length + 1) [] 0 0
theorem bestL_bounds (old new : List Int) (zs : List Int) (hz : ∀ z ∈ zs, 0 ≤ z ∧ z < old.length) : ∀ n p : Int, 0 ≤ n → n ≤ new.length → 0 ≤ p → p ≤ old.length →
    0 ≤ (bestL old new zs n p).1 ∧ (bestL old new zs n p).1 ≤ new.length ∧ 0 ≤ (bestL old new zs n p).2 ∧ (bestL old new zs n p).2 ≤ old.length := by
  induction zs with
  | nil => intro n p h1 h2 h3 h4; simp only [bestL]; omega
  | cons z r ih =>
    intro n p h1 h2 h3 h4
    have hz' := hz z (by simp)
    have hc := (common_le (old.drop z.toNat) new).2
    have ih' := ih (fun x hx => hz x (by simp [hx]))
    simp only [bestL]
    split
    · exact ⟨h1, h2, h3, h4⟩
    · split
      · exact ih' n p h1 h2 h3 h4
      · split
        · exact ih' _ z (by omega) (by omega) hz'.1 (by omega)
        · exact ih' n p h1 h2 h3 h4
theorem best_bounds (old new : List Int) : 0 ≤ (best old new).1 ∧ (best old new).1 ≤ new.length ∧ 0 ≤ (best old new).2 ∧ (best old new).2 ≤ old.length := by
  unfold best
  split
  · simp
  · refine bestL_bounds old new _ (fun z hz => ?_) 0 0 (by omega) (by omega) (by omega) (by omega)
    have := pos_mem hz
    omega
theorem or1 (n : Nat) (h : n ≤ 100000) : bits .or .u64 (IntKind.u64.wrap (IntKind.u64.wrap (n : Int) * 2)) 1 = ((2 * n + 1 : Nat) : Int) := by
  have e : IntKind.u64.wrap (IntKind.u64.wrap (n : Int) * 2) = ((2 * n : Nat) : Int) := by rw [Zig.u64w, Zig.u64w]; omega
  rw [e, show (1 : Int) = ((1 : Nat) : Int) from rfl, u64_or_nat _ _ (by omega) (by decide)]
  have h2 := Nat.two_pow_add_eq_or_of_lt (i := 1) (b := 1) (by decide) n
  rw [show 2 ^ 1 * n = 2 * n by omega] at h2
  rw [← h2]
theorem cell_three_new (w : World) (x y z : Value) (t : TypeId) : ∀ j u, [x, y, z][j]? = some u → (w.alloc (.cells #[x, y, z] t)).cell? ((⟨w.heap.size, 0, none⟩ : Addr).add j) = some u := by
  intro j u hj
  match j, hj with
  | 0, hj => simp at hj; subst hj; simp [Addr.add]
  | 1, hj => simp at hj; subst hj; simp [Addr.add]
  | 2, hj => simp at hj; subst hj; simp [Addr.add]
  | (j + 3), hj => simp at hj
theorem info22 : (Try.prog.info? 22).map (fun i => (i.zero, i.size, i.bytes)) = some (some (.slice none 0 0), 1, 24) := by kernel_rfl

set_option maxHeartbeats 16000000 in
set_option maxRecDepth 100000 in
theorem make_calls (A0 : Option Addr) (c0 : Nat) (old : List Int) (A1 : Option Addr) (c1 : Nat) (new : List Int) (w : World)
    (hr0 : Kd.C (Kd.int .u8) w A0 old.length old) (hc0 : old.length ≤ c0) (hr1 : Kd.C (Kd.int .u8) w A1 new.length new) (hc1 : new.length ≤ c1)
    (hl0 : old.length ≤ 100000) (hl1 : new.length ≤ 100000) (hb0 : ∀ x ∈ old, 0 ≤ x ∧ x < 256) (hb1 : ∀ x ∈ new, 0 ≤ x ∧ x < 256) :
    Calls Try.prog 28 #[.slice A0 old.length c0, .slice A1 new.length c1] w fun e w' => ∃ v, e = .returned v ∧ Kd.R (Kd.int .u8) 5 w' w.heap.size (fun _ => True) v (make old new) ∧ Below w.heap.size w w' := by
  go_enter Try.func28, Try.ntmps28
  go_wp2_with (fail)
  refine (index_calls A0 c0 old w hr0 hc0 hl0 hb0).mono ?_
  rintro e W1 ⟨rfl, ⟨D, nD, hown, hidx, hnD⟩, hB1, hS1⟩
  have HR0 := Aside0.mk (Kd.C_below hr0 hB1)
  have HR1 := Aside0.mk (Kd.C_below hr1 hB1)
  have HOWN := Aside0.mk hown
  have HIDX := Aside0.mk hidx
  have HND := Aside0.mk hnD
  have HB1 := Aside0.mk hB1
  have HL := Aside0.mk (show old.length ≤ 100000 ∧ new.length ≤ 100000 ∧ old.length ≤ c0 ∧ new.length ≤ c1 ∧ w.heap.size ≤ W1.heap.size from ⟨hl0, hl1, hc0, hc1, hB1.size⟩)
  have HX := Aside0.mk hb1
  have hbn : w.heap.size < w.heap.size + 1 := Nat.lt_succ_self _
  generalize w.heap.size + 1 = base at *
  clear hown hidx hnD hB1 hr0 hr1 hb0 hb1 hS1 hl0 hl1 hc0 hc1
  go_wp2
  go_loopw [6, 7, 8] (fun v6 v7 v8 wl => ∃ (o : List Int) (f frm i : Nat), v7 = .int .i64 frm ∧ v8 = .int .i64 i ∧ Aside0 (frm ≤ i ∧ i ≤ new.length ∧ o.length ≤ 40 * frm ∧ new.length < f + i) ∧
      Aside0 (Kd.R (Kd.int .u8) 5 wl W1.heap.size (fun k => W1.heap.size ≤ k) v6 o) ∧ Aside0 (Below W1.heap.size W1 wl) ∧ Aside0 (make old new = mk old new f o frm i))
    (fun _ _ i _ => new.length - (intOf i).toNat)
  case atStart => exact ⟨[], new.length + 1, 0, 0, rfl, rfl, ⟨by simp⟩, ⟨Kd.R_nil _ _ _ _ _⟩, ⟨Below.refl _ _⟩, ⟨rfl⟩⟩
  case round =>
    obtain ⟨o, f, frm, i, rfl, rfl, HI, HRO, HBL, HF⟩ := hrel
    by_cases hlt : i < new.length
    · have hd3 : decide ((i : Int) < (new.length : Int)) = true := by simp; omega
      have hI := HI.out
      have hL := HL.out
      obtain ⟨f, rfl⟩ : ∃ g, f = g + 1 := ⟨f - 1, by omega⟩
      have hF := HF.out
      simp only [mk, if_pos hlt] at hF
      have hdl : (new.drop i).length = new.length - i := List.length_drop
      have hbb := best_bounds old (new.drop i)
      obtain ⟨A', hsl, hsr, hsc⟩ := print_drop_of (P := Try.prog) (Value.int .u8) (0 : Int) 22 5 .i64 Try.underlying22 (info_parts info5).choose_spec.1 (info_parts info5).choose_spec.2.2.1 A1 c1 new (i : Int) (by omega) (by omega) hL.2.2.2.1
      rw [Int.toNat_natCast] at hsl hsr hsc
      have HCW := Aside0.mk (Kd.C_of_reads (h1 := fun _ => rfl) (hsr W1 (Kd.reads_of_C (h1 := fun _ => rfl) HR1.out)))
      have HCA := Aside0.mk hsc
      have HBB := Aside0.mk hbb
      generalize hbe : best old (new.drop i) = be at *
      obtain ⟨n, place⟩ := be
      simp only at hF hbb HBB
      by_cases h0 : n = 0
      · have h0b : (n == 0) = true := beq_iff_eq.mpr h0
        rw [if_pos h0] at hF
        have HFF := Aside0.mk hF
        clear hF HF hsr hsc hI hL hbb
        go_wp2_with (fail)
        rw [← hdl]
        refine (best_calls A0 c0 old A' _ (new.drop i) w.heap.size base nD D wr (Kd.C_below HR0.out HBL.out) HL.out.2.2.1 (Kd.C_below HCW.out HBL.out) HCA.out HL.out.1 (by have := HL.out; omega) (fun x hx => HX.out x (List.mem_of_mem_drop hx)) (HOWN.out.kept (below_none HBL.out) (fun e => by cases e) (fun _ _ _ x _ => by cases x.val.ownBlock <;> simp)) HIDX.out HND.out).mono ?_
        rintro e w3 ⟨rfl, ⟨md, rfl⟩⟩
        rw [hbe]
        clear hsl
        go_wp2
        have ew : wrap64 ((i : Int) + 1) = ((i + 1 : Nat) : Int) := by have := HL.out; unfold wrap64; omega
        have hI := HI.out
        exact ⟨⟨o, f, frm, i + 1, rfl, by rw [ew], ⟨by clear ew; omega⟩, ⟨Kd.R_drewN HRO.out _⟩, ⟨pw_below_drewN HBL.out _⟩, HFF⟩, by rw [ew]; simp only [intOf]; omega⟩
      · have h0b : (n == 0) = false := beq_eq_false_iff_ne.mpr h0
        rw [if_neg h0] at hF
        obtain ⟨m, rfl⟩ := Int.eq_ofNat_of_zero_le hbb.1
        obtain ⟨q, rfl⟩ := Int.eq_ofNat_of_zero_le hbb.2.2.1
        simp only [Int.toNat_natCast] at hF
        obtain ⟨A2, hsl2, hsr2, hsc2⟩ := print_mid_of (P := Try.prog) (Value.int .u8) (0 : Int) 22 5 .i64 .i64 Try.underlying22 (info_parts info5).choose_spec.1 (info_parts info5).choose_spec.2.2.1 A1 c1 new (frm : Int) (i : Int) (by omega) (by omega) (by omega) hL.2.2.2.1
        simp only [Int.toNat_natCast] at hsl2 hsr2 hsc2
        have HCW2 := Aside0.mk (Kd.C_of_reads (h1 := fun _ => rfl) (hsr2 W1 (Kd.reads_of_C (h1 := fun _ => rfl) HR1.out)))
        have HCA2 := Aside0.mk hsc2
        have hdl2 : ((new.take i).drop frm).length = i - frm := by rw [List.length_drop, List.length_take]; omega
        have HDL2 := Aside0.mk hdl2
        have HBF := Aside0.mk (bytes_f o ((new.take i).drop frm) (by omega) (by omega))
        have hll := lit_len ((new.take i).drop frm) (by omega)
        rw [hdl2] at hll
        have hm1 : 1 ≤ m ∧ m ≤ new.length - i ∧ q ≤ old.length := by omega
        have HM := Aside0.mk hm1
        have he1 := Leb.enc_len10 (2 * m + 1) (by omega)
        have he2 := Leb.enc_len10 q (by omega)
        have HE := Aside0.mk (show (lit ((new.take i).drop frm)).length ≤ i - frm + 10 ∧ (Leb.enc (2 * m + 1)).length ≤ 10 ∧ (Leb.enc q).length ≤ 10 from ⟨hll, he1, he2⟩)
        have HP1 : Aside0 (leb_Put.f 10 (2 * (m : Int) + 1) = some (Leb.enc (2 * m + 1))) := ⟨by have := put_f (2 * (m : Int) + 1) (by omega) (by omega); rwa [show (2 * (m : Int) + 1).toNat = 2 * m + 1 by omega] at this⟩
        have HP2 : Aside0 (leb_Put.f 10 (q : Int) = some (Leb.enc q)) := ⟨by have := put_f (q : Int) (by omega) (by omega); rwa [Int.toNat_natCast] at this⟩
        have ho1 := or1 m (by omega)
        have hwq : IntKind.u64.wrap (q : Int) = q := by rw [Zig.u64w]; omega
        have HFF := Aside0.mk hF
        clear hF HF hsr hsc hI hL hbb hsr2 hsc2 hm1 he1 he2 hll hdl2
        obtain ⟨xs, hxs⟩ : ∃ xs, xs = (new.take i).drop frm := ⟨_, rfl⟩
        rw [← hxs] at HCW2 HCA2 HDL2 HBF HE HFF hsl2
        clear hxs
        go_wp2_with (fail)
        rw [← hdl]
        refine (best_calls A0 c0 old A' _ (new.drop i) w.heap.size base nD D wr (Kd.C_below HR0.out HBL.out) HL.out.2.2.1 (Kd.C_below HCW.out HBL.out) HCA.out HL.out.1 (by have := HL.out; omega) (fun x hx => HX.out x (List.mem_of_mem_drop hx)) (HOWN.out.kept (below_none HBL.out) (fun e => by cases e) (fun _ _ _ x _ => by cases x.val.ownBlock <;> simp)) HIDX.out HND.out).mono ?_
        rintro e w3 ⟨rfl, ⟨md, rfl⟩⟩
        rw [hbe]
        clear hsl
        go_wp2_with (fail)
        refine (delta_bytes.calls 10 (fun k => W1.heap.size ≤ k) u6 o A2 _ xs _ W1 (wr.drewN md) (pw_below_drewN HBL.out _) (Kd.R_drewN HRO.out _) (Kd.C_kept_came (Kd.heap_int _) HCW2.out (pw_below_drewN HBL.out _) (fun k h => h)) HCA2.out HBF.out).mono ?_
        rintro e w4 ⟨v4, rfl, ho, hb, _⟩
        have HO4 : Aside0 (Kd.R (Kd.int .u8) 5 w4 W1.heap.size (fun k => W1.heap.size ≤ k) v4 (o ++ lit xs)) := ⟨Kd.R_mono ho (fun k hk => hk.elim id (fun h => Nat.le_trans HBL.out.size h))⟩
        have HB4 := Aside0.mk hb
        clear ho hb HRO HBL hsl2
        go_wp2_with (fail)
        refine (leb_Put.calls 10 _ _ _ HP1.out).mono ?_
        rintro e w5 ⟨v5, rfl, ho5, hb5⟩
        have HO5 := Aside0.mk ho5
        have HO4' := Aside0.mk (Kd.R_kept HO4.out (Kept.of_below hb5 (fun _ => False)) (fun _ _ h => h))
        have HB5 := Aside0.mk (below_then HB4.out HB4.out.size hb5)
        clear ho5 hb5 HO4
        go_wp2_with (fail)
        refine (leb_Put.calls 10 _ _ _ HP2.out).mono ?_
        rintro e w6 ⟨v6, rfl, ho6, hb6⟩
        have HO6 := Aside0.mk ho6
        have HO5' := Aside0.mk (Kd.R_kept HO5.out (Kept.of_below hb6 (fun _ => False)) (fun _ _ h => h))
        have HO4 := Aside0.mk (Kd.R_kept HO4'.out (Kept.of_below hb6 (fun _ => False)) (fun _ _ h => h))
        have HB6 := Aside0.mk (below_then HB5.out HB5.out.size hb6)
        clear ho6 hb6 HO4' HO5 HB4 HB5
        obtain ⟨A4, c4, rfl⟩ := Kd.R_slice HO4.out
        obtain ⟨A5, c5, rfl⟩ := Kd.R_slice HO5'.out
        obtain ⟨A6, c6, rfl⟩ := Kd.R_slice HO6.out
        obtain ⟨i22, hi22, hz22, hz22s, hz22b⟩ := info_parts info22
        go_wp2_with (fail)
        have hb7 : Below w6.heap.size w6 (w6.alloc (.cells #[.slice A4 (o.length + (lit xs).length) c4, .slice A5 (Leb.enc (2 * m + 1)).length c5, .slice A6 (Leb.enc q).length c6] 22)) := (Below.refl _ _).alloc (Nat.le_refl _) _
        have h3 := cell_three_new w6 (.slice A4 (o.length + (lit xs).length) c4) (.slice A5 (Leb.enc (2 * m + 1)).length c5) (.slice A6 (Leb.enc q).length c6) 22
        generalize w6.alloc (.cells #[.slice A4 (o.length + (lit xs).length) c4, .slice A5 (Leb.enc (2 * m + 1)).length c5, .slice A6 (Leb.enc q).length c6] 22) = w7 at *
        have hE := HE.out
        have hI := HI.out
        have hM := HM.out
        have hL := HL.out
        refine (concat_calls ⟨w6.heap.size, 0, none⟩ 3 [(A4, c4, o ++ lit xs), (A5, c5, Leb.enc (2 * m + 1)), (A6, c6, Leb.enc q)] w7 (fun j h => ?hcl) (fun x hx => ?hcc) ?htt (by simp) (by simp)).mono ?_
        case hcl =>
          match j, h with
          | 0, _ => have := h3 0 _ rfl; rw [← List.length_append] at this; exact this
          | 1, _ => exact h3 1 _ rfl
          | 2, _ => exact h3 2 _ rfl
          | (j + 3), h => exact absurd h (by simp)
        case hcc =>
          simp only [List.mem_cons, List.not_mem_nil, or_false] at hx
          rcases hx with rfl | rfl | rfl
          · exact Kd.C_below (Kd.R_reads' HO4.out).2.2 hb7
          · exact Kd.C_below (Kd.R_reads' HO5'.out).2.2 hb7
          · exact Kd.C_below (Kd.R_reads' HO6.out).2.2 hb7
        case htt => simp only [cat, List.flatMap_cons, List.flatMap_nil, List.length_append, List.length_nil]; omega
        rintro e w8 ⟨v8, rfl, ho8, hb8⟩
        have hcat : cat [(A4, c4, o ++ lit xs), (A5, c5, Leb.enc (2 * m + 1)), (A6, c6, Leb.enc q)] = o ++ lit xs ++ Leb.enc (2 * m + 1) ++ Leb.enc q := by simp [cat]
        rw [hcat] at ho8
        have hs7 : W1.heap.size ≤ w7.heap.size := Nat.le_trans HB6.out.size hb7.size
        have HO8 : Aside0 (Kd.R (Kd.int .u8) 5 w8 W1.heap.size (fun k => W1.heap.size ≤ k) v8 (o ++ lit xs ++ Leb.enc (2 * m + 1) ++ Leb.enc q)) := ⟨Kd.R_lower (Kd.R_mono (Kd.R_bound ho8) (fun k hk => Nat.le_trans hs7 hk.2.1)) hs7⟩
        have HB8 : Aside0 (Below W1.heap.size W1 w8) := ⟨below_then (below_then HB6.out HB6.out.size hb7) hs7 hb8⟩
        clear ho8 hb8 h3 hb7 hcat hE hI hM hL
        have ew : wrap64 ((i : Int) + m) = ((i + m : Nat) : Int) := by have := HL.out; have := HM.out; unfold wrap64; omega
        go_wp2
        have hK : (i + m ≤ i + m ∧ i + m ≤ new.length ∧ (o ++ lit xs ++ Leb.enc (2 * m + 1) ++ Leb.enc q).length ≤ 40 * (i + m) ∧ new.length < f + (i + m)) ∧ new.length - (i + m) < new.length - i := by
          have hE := HE.out
          have hI := HI.out
          have hM := HM.out
          clear ew
          simp only [List.length_append]
          omega
        exact ⟨⟨_, f, i + m, i + m, by rw [ew], by rw [ew], ⟨hK.1⟩, HO8, HB8, HFF⟩, by rw [ew]; exact hK.2⟩
    · have hd3 : decide ((i : Int) < (new.length : Int)) = false := by simp; omega
      have hI := HI.out
      obtain rfl : i = new.length := by omega
      have hL := HL.out
      obtain ⟨f, rfl⟩ : ∃ g, f = g + 1 := ⟨f - 1, by omega⟩
      have hF := HF.out
      simp only [mk, if_neg hlt] at hF
      obtain ⟨A', hsl, hsr, hsc⟩ := print_drop_of (P := Try.prog) (Value.int .u8) (0 : Int) 22 5 .i64 Try.underlying22 (info_parts info5).choose_spec.1 (info_parts info5).choose_spec.2.2.1 A1 c1 new (frm : Int) (by omega) (by omega) hL.2.2.2.1
      rw [Int.toNat_natCast] at hsl hsr hsc
      have HCW := Aside0.mk (Kd.C_of_reads (h1 := fun _ => rfl) (hsr W1 (Kd.reads_of_C (h1 := fun _ => rfl) HR1.out)))
      have HCA := Aside0.mk hsc
      have hbf := bytes_f o (new.drop frm) (by omega) (by rw [List.length_drop]; omega)
      have HBF := Aside0.mk hbf
      have hdl : (new.drop frm).length = new.length - frm := List.length_drop
      have HFF := Aside0.mk hF
      clear hF HF hsr hsc hbf hI hL
      go_wp2_with (fail)
      rw [← hdl]
      refine (delta_bytes.calls 10 (fun k => W1.heap.size ≤ k) u6 o A' _ (new.drop frm) _ W1 wr HBL.out HRO.out (Kd.C_kept_came (Kd.heap_int _) HCW.out HBL.out (fun k h => h)) HCA.out HBF.out).mono ?_
      rintro e w3 ⟨v, rfl, ho, hb, _⟩
      have HO3 := Aside0.mk ho
      have HB3 := Aside0.mk hb
      clear ho hb hsl
      go_wp2
      go_ret
      exact ⟨_, rfl, by rw [HFF.out]; exact Kd.R_lower (Kd.R_mono HO3.out (fun _ _ => trivial)) HL.out.2.2.2.2, below_step HB1.out HB3.out⟩
end Go.Proofs.Ytmaefdeigienjaa.DeltaM
