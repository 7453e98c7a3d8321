/- Package delta: the greatest match of bytes' beginning: the walk of best. -/
import Derived.Test.YtmaefdeigienjaaDeltaBase
namespace Go.Proofs.Ytmaefdeigienjaa.DeltaM
open Go Go.RowKit Go.Maps Go.Proofs.YtmaefdeigienjaaW.PrintWords Go.Proofs.YtmaefdeigienjaaW.PrintLast Go.Proofs.YtmaefdeigienjaaW.PrintMore
attribute [local go_sem] max2_int min2_int max_two min_two max_three min_three max_four min_four
set_option linter.unusedVariables false
set_option linter.unusedSimpArgs false

/-- how many are alike at the beginning of both -/
def common : List Int → List Int → Nat
  | x :: xs, y :: ys => if x = y then common xs ys + 1 else 0
  | _, _ => 0
theorem common_le (x y : List Int) : common x y ≤ x.length ∧ common x y ≤ y.length := by
  induction x generalizing y with
  | nil => simp [common]
  | cons a x ih => cases y with
    | nil => simp [common]
    | cons b y =>
      have := ih y
      simp only [common]
      split <;> simp <;> omega
theorem rd_at (l : List Int) (i : Nat) (h : i < l.length) : rd l (i : Int) = l[i] := by
  unfold rd
  rw [Int.toNat_natCast, List.getD_eq_getElem?_getD, List.getElem?_eq_getElem h]
  rfl
theorem alike_l0 (x y : List Int) (hx : x.length ≤ 100000) : ∀ (k i : Nat), i ≤ x.length → x.length + 1 ≤ k + i →
    delta_alike.l0 k x y (i : Int) = some ((i + common (x.drop i) (y.drop i) : Nat) : Int) := by
  intro k
  induction k with
  | zero => intro i h1 h2; omega
  | succ k ih =>
    intro i h1 h2
    simp only [delta_alike.l0]
    by_cases h3 : i < x.length
    · rw [if_pos (by omega)]
      by_cases h4 : i < y.length
      · rw [if_pos (by omega), if_pos (by omega), rd_at x i h3, rd_at y i h4, List.drop_eq_getElem_cons h3, List.drop_eq_getElem_cons h4]
        simp only [common]
        by_cases h5 : x[i] = y[i]
        · have e : wrap64 ((i : Int) + 1) = ((i + 1 : Nat) : Int) := by unfold wrap64; omega
          rw [if_pos h5, if_pos h5, e, ih (i + 1) (by omega) (by omega)]
          congr 1; omega
        · rw [if_neg h5, if_neg h5]; rfl
      · rw [if_neg (by omega), List.drop_of_length_le (l := y) (by omega)]
        cases x.drop i <;> simp [common]
    · rw [if_neg (by omega), List.drop_of_length_le (l := x) (by omega)]
      simp [common]
theorem alike_f (x y : List Int) (hx : x.length ≤ 100000) : delta_alike.f 100001 x y = some (common x y : Int) := by
  have := alike_l0 x y hx 100001 0 (by omega) (by omega)
  simpa [delta_alike.f] using this

/-- the places of a key, one behind the other: the greatest match so far, and its first place -/
def bestL (old new : List Int) : List Int → Int → Int → Int × Int
  | [], n, p => (n, p)
  | z :: r, n, p =>
    if n = (new.length : Int) ∨ (old.length : Int) ≤ z + n then (n, p)
    else if 0 < n ∧ rd old (z + n) ≠ rd new n then bestL old new r n p
    else if n < (common (old.drop z.toNat) new : Int) then bestL old new r (common (old.drop z.toNat) new : Int) z else bestL old new r n p
def best (old new : List Int) : Int × Int :=
  if new.length < 4 then (0, 0) else bestL old new (pos old (old.length - 3) (new.take 4)) 0 0

theorem below_none {w w' : World} (h : Below w.heap.size w w') : w.grownBy w' none := ⟨h.os, h.tape, h.output, h.size, fun k hk _ => h.block k hk⟩
/-- a row of places, as it is read -/
theorem ints_C {w : World} {base : Nat} {v : Value} {zs : List Int} (h : w.ownsInts base 3 .i64 v zs) : ∃ A c, v = .slice A zs.length c ∧ zs.length ≤ c ∧ Kd.C (Kd.int .i64) w A zs.length zs := by
  have hR : Kd.R (Kd.int .i64) 3 w base (fun _ => True) v zs := Kd.R_of_own (by unfold encs; simpa using h.1) (fun _ _ => trivial)
  obtain ⟨A, c, rfl⟩ := Kd.R_slice hR
  obtain ⟨h1, h2, h3⟩ := Kd.R_reads' hR
  exact ⟨A, c, rfl, h2, h3⟩
theorem gate_lookup {w : World} {ops : Array Oper} {rest : List Oper} {o : Oper} {a : Act} {Q : Exit → Act → World → Prop} {P : Program} {t : TypeId} {m x : Operand} {b : Bool} (h : o.op = Op.lookup t m x b) (g : wpList P ops Q (o :: rest) a w) : wpList P ops Q (o :: rest) a w := g

set_option maxHeartbeats 8000000 in
set_option maxRecDepth 100000 in
theorem best_calls (A0 : Option Addr) (c0 : Nat) (old : List Int) (A1 : Option Addr) (c1 : Nat) (new : List Int) (b base n : Nat) (D : DataW Unit) (w : World)
    (hr0 : Kd.C (Kd.int .u8) w A0 old.length old) (hc0 : old.length ≤ c0) (hr1 : Kd.C (Kd.int .u8) w A1 new.length new) (hc1 : new.length ≤ c1)
    (hl0 : old.length ≤ 100000) (hl1 : new.length ≤ 100000) (hb : ∀ x ∈ new, 0 ≤ x ∧ x < 256)
    (hown : w.ownsGroups Try.prog 99 base 3 .i64 b n D) (hidx : Idx old (old.length - 3) D) (hn : n ≤ old.length) :
    Calls Try.prog 45 #[.slice A0 old.length c0, .slice A1 new.length c1, .map (some b)] w fun e w' => e = .returned (.tuple #[.int .i64 (best old new).1, .int .i64 (best old new).2]) ∧ Drawn0 w w' := by
  by_cases h4 : new.length < 4
  · have hbe : best old new = (0, 0) := if_pos h4
    have hd : decide ((new.length : Int) < 4) = true := by simp; omega
    rw [hbe]
    clear hown hidx hb hr0 hr1
    go_enter Try.func45, Try.ntmps45
    go_wp2
    repeat (go_quiet (fail); try go_wp2)
    go_ret2
    exact ⟨by first | rfl | (simp; done), by repeat (first | exact Drawn0.refl _ | apply Drawn0.step)⟩
  · have hbe : best old new = bestL old new (pos old (old.length - 3) (new.take 4)) 0 0 := if_neg h4
    have hd : decide ((new.length : Int) < 4) = false := by simp; omega
    have hd2 : decide ((4 : Int) ≤ (c1 : Int)) = true := by simp; omega
    obtain ⟨ad, rfl, hcell⟩ := cells4 hr1 (k := 0) (by omega)
    have hq4 : q4 new 0 = new.take 4 := by simp [q4]
    rw [hq4] at hcell
    have hqm : ∀ x ∈ new.take 4, 0 ≤ x ∧ x < 256 := fun x hx => hb x (List.mem_of_mem_take hx)
    obtain ⟨kl, hkey⟩ := key_ok (q := new.take 4) (by rw [List.length_take]; omega) hqm
    have hat0 := hidx.at_ _ _ hkey
    have hkv : keyV (new.take 4) = .agg ((new.take 4).map (Value.int .u8)).toArray := rfl
    rw [hkv] at hkey
    rw [hbe]
    have hpm : ∀ z ∈ pos old (old.length - 3) (new.take 4), 0 ≤ z ∧ z < ((old.length - 3 : Nat) : Int) := fun z hz => pos_mem hz
    have hpl := pos_len old (old.length - 3) (new.take 4)
    generalize pos old (old.length - 3) (new.take 4) = zs0 at *
    have harr : ∀ w' : World, (Instr.arrayAt 99 (.slice (some ad) 4 c1)).run Try.prog w' = .ok (.pointer (some ad)) w' := fun w' => by simp [Instr.arrayAt, run_underlying Try.underlying99, Result.andThen]
    have hqn : ((new.take 4).map (Value.int .u8)).length = 4 := by rw [List.length_map, List.length_take]; omega
    have hsz : (Try.prog.info? 99).map (·.size) = some ((new.take 4).map (Value.int .u8)).length := by rw [hqn]; exact (zero_of_info info99).2
    have hcell2 : ∀ j v, ((new.take 4).map (Value.int .u8))[j]? = some v → w.cell? (ad.add j) = some v := fun j v hv => by
      have := hcell j v hv
      rwa [show ad.add 0 = ad by simp [Addr.add]] at this
    generalize (new.take 4).map (Value.int .u8) = cs at *
    have HP := Aside0.mk hpm
    have HR0 := Aside0.mk hr0
    have HR1 := Aside0.mk hr1
    clear hbe hq4 hqm hpm hkv hcell hidx hr0 hr1 hqn hb
    go_enter Try.func45, Try.ntmps45
    go_wp2_with (first
      | (refine wpList_load_at rfl 99 _ rfl ad rfl cs 4 5 hcell2 Try.underlying99 hsz ?_)
      | ((with_reducible refine gate_lookup (t := 79) (m := .tmp 16) (x := .tmp 20) rfl ?_); refine wpList_lookup_groups _ rfl _ _ 79 rfl 99 60 3 .i64 (Keyed.of_law law99) Try.underlying79 (zero60 _) base b n D rfl hown (by unfold maxLen; omega) _ kl rfl hkey ?_; intro v zs hat hoi hzl _; obtain rfl := dat_row hoi (hat0.symm.trans hat); obtain ⟨Av, cv, rfl, hcv, hrv⟩ := ints_C hoi; clear hat hoi hat0 hzl)
      | go_in)
    clear hcell2 hkey harr hsz hown
    have HRV := Aside0.mk hrv
    clear hrv
    go_loopw [8, 9, 23] (fun vn vp vk wl => ∃ (n p : Int) (k : Nat), vn = .int .i64 n ∧ vp = .int .i64 p ∧ vk = .int .i64 k ∧ k ≤ zs.length ∧ 0 ≤ n ∧ n ≤ new.length ∧ 0 ≤ p ∧ Aside0 (bestL old new zs 0 0 = bestL old new (zs.drop k) n p) ∧ Drawn0 w wl)
      (fun _ _ i _ => zs.length - (intOf i).toNat)
    case atStart => exact ⟨0, 0, 0, rfl, rfl, rfl, Nat.zero_le _, by omega, by omega, by omega, ⟨rfl⟩, by repeat (first | exact Drawn0.refl _ | apply Drawn0.step)⟩
    case round =>
      obtain ⟨m, p, k, rfl, rfl, rfl, hk, hm0, hm1, hp0, HF, ⟨md, rfl⟩⟩ := hrel
      by_cases hlt : k < zs.length
      · have hd3 : decide ((k : Int) < (zs.length : Int)) = true := by simp; omega
        have hk0 : decide ((0 : Int) ≤ (k : Int)) = true := by simp
        obtain ⟨adv, ev, hcv2⟩ := Kd.at_int HRV.out (k : Int) (by omega) (by omega)
        cases ev
        rw [Int.toNat_natCast] at hcv2
        have hz := HP.out (rd zs (k : Int)) (by rw [rd_at zs k hlt]; exact List.getElem_mem hlt)
        have hF := HF.out
        rw [List.drop_eq_getElem_cons hlt, ← rd_at zs k hlt] at hF
        have ew : wrap64 ((k : Int) + 1) = ((k + 1 : Nat) : Int) := by unfold wrap64; omega
        clear HF
        generalize rd zs (k : Int) = z at *
        simp only [bestL] at hF
        have ez : wrap64 (z + m) = z + m := by unfold wrap64; omega
        by_cases c1 : m = (new.length : Int)
        · rw [if_pos (.inl c1)] at hF
          have HF := Aside0.mk hF
          have c1b : (m == (new.length : Int)) = true := beq_iff_eq.mpr c1
          clear hF c1
          go_wp2
          repeat (go_quiet (fail); try go_wp2)
          go_ret2
          exact ⟨by rw [HF.out]; rfl, by repeat (first | exact Drawn0.refl _ | apply Drawn0.step)⟩
        · have c1b : (m == (new.length : Int)) = false := beq_eq_false_iff_ne.mpr c1
          have hcm : (common (old.drop z.toNat) new : Int) ≤ new.length := by have := (common_le (old.drop z.toNat) new).2; omega
          by_cases c2 : (old.length : Int) ≤ z + m
          · rw [if_pos (.inr c2)] at hF
            have HF := Aside0.mk hF
            have c2b : decide ((old.length : Int) ≤ wrap64 (z + m)) = true := by rw [ez]; exact decide_eq_true c2
            clear hF c2 c1 ez hcm hz hm0 hm1 hp0 hl0 hl1
            go_wp2
            repeat (go_quiet (fail); try go_wp2)
            go_ret2
            exact ⟨by rw [HF.out]; rfl, by repeat (first | exact Drawn0.refl _ | apply Drawn0.step)⟩
          · rw [if_neg (by omega)] at hF
            have c2b : decide ((old.length : Int) ≤ wrap64 (z + m)) = false := by rw [ez]; exact decide_eq_false c2
            obtain ⟨ad0, e0, hx0⟩ := Kd.at_int HR0.out (wrap64 (z + m)) (by omega) (by omega)
            cases e0
            obtain ⟨ad1, e1, hx1⟩ := Kd.at_int HR1.out m (by omega) (by omega)
            cases e1
            have hq1 := eq_true (show (0 : Int) ≤ wrap64 (z + m) by omega)
            have hq2 := eq_true (show wrap64 (z + m) < (old.length : Int) by omega)
            have hq3 := eq_true (show (0 : Int) ≤ m by omega)
            have hq4 := eq_true (show m < (new.length : Int) by omega)
            by_cases c3 : 0 < m ∧ rd old (z + m) ≠ rd new m
            · rw [if_pos c3] at hF
              have HF := Aside0.mk hF
              have c3a : decide (0 < m) = true := decide_eq_true c3.1
              have c3b : (rd old (wrap64 (z + m)) != rd new m) = true := by rw [ez]; exact bne_iff_ne.mpr c3.2
              have HZ := Aside0.mk (show (0 ≤ m ∧ m ≤ new.length ∧ 0 ≤ p ∧ 0 ≤ z) from ⟨hm0, hm1, hp0, hz.1⟩)
              clear hF c3 c2 c1 ez hcm hz hm0 hm1 hp0 hl0 hl1
              go_wp2
              repeat (go_quiet (fail); try go_wp2)
              exact ⟨⟨m, p, k + 1, rfl, rfl, by rw [ew], by omega, by have := HZ.out; omega, by have := HZ.out; omega, by have := HZ.out; omega, HF, by repeat (first | exact Drawn0.refl _ | apply Drawn0.step)⟩, by rw [ew]; simp only [intOf]; omega⟩
            · rw [if_neg c3] at hF
              have HZ := Aside0.mk (show (0 ≤ m ∧ m ≤ new.length ∧ 0 ≤ p ∧ 0 ≤ z ∧ (common (old.drop z.toNat) new : Int) ≤ new.length) from ⟨hm0, hm1, hp0, hz.1, hcm⟩)
              obtain ⟨A', hsl, hsr, hsc⟩ := print_drop_of (P := Try.prog) (Value.int .u8) (0 : Int) 22 5 .i64 Try.underlying22 (info_parts info5).choose_spec.1 (info_parts info5).choose_spec.2.2.1 (some ad0) c0 old z hz.1 (by omega) hc0
              have HRA := Aside0.mk (Kd.C_of_reads (h1 := fun _ => rfl) (hsr w (Kd.reads_of_C (h1 := fun _ => rfl) HR0.out)))
              have HCA := Aside0.mk hsc
              have HAL := Aside0.mk (alike_f (old.drop z.toNat) new (by rw [List.length_drop]; omega))
              clear hsr hsc
              have hdl : (old.drop z.toNat).length = old.length - z.toNat := List.length_drop
              by_cases c3g : 0 < m
              · have c3a : decide (0 < m) = true := decide_eq_true c3g
                have c3b : (rd old (wrap64 (z + m)) != rd new m) = false := by rw [ez]; exact bne_eq_false_iff_eq.mpr (Decidable.not_not.1 (fun e => c3 ⟨c3g, e⟩))
                clear c3g
                by_cases c4 : m < (common (old.drop z.toNat) new : Int)
                · rw [if_pos c4] at hF
                  have c4a : decide (m < (common (old.drop z.toNat) new : Int)) = true := decide_eq_true c4
                  have HF := Aside0.mk hF
                  clear hF c4 c3 c2 c1 ez hz hm0 hm1 hp0 hl0 hl1 hcm
                  go_wp2
                  go_quiet (fail)
                  go_wp2_with (fail)
                  rw [← hdl]
                  refine (delta_alike.calls 100001 A' _ _ _ _ _ _ _ ?side1 HCA.out ?side3 hc1 HAL.out).mono ?_
                  case side1 => repeat (first | exact HRA.out | (with_reducible refine Kd.C_alloc ?_ _) | (with_reducible refine Kd.C_drewN ?_ _) | (with_reducible refine Kd.C_drew ?_))
                  case side3 => repeat (first | exact HR1.out | (with_reducible refine Kd.C_alloc ?_ _) | (with_reducible refine Kd.C_drewN ?_ _) | (with_reducible refine Kd.C_drew ?_))
                  rintro e w' ⟨rfl, ⟨nd, rfl⟩⟩
                  go_wp2
                  exact ⟨⟨(common (old.drop z.toNat) new : Int), z, k + 1, rfl, rfl, by rw [ew], by omega, by have := HZ.out; omega, by have := HZ.out; omega, by have := HZ.out; omega, HF, by repeat (first | exact Drawn0.refl _ | apply Drawn0.step)⟩, by rw [ew]; simp only [intOf]; omega⟩
                · rw [if_neg c4] at hF
                  have c4a : decide (m < (common (old.drop z.toNat) new : Int)) = false := decide_eq_false c4
                  have HF := Aside0.mk hF
                  clear hF c4 c3 c2 c1 ez hz hm0 hm1 hp0 hl0 hl1 hcm
                  go_wp2
                  go_quiet (fail)
                  go_wp2_with (fail)
                  rw [← hdl]
                  refine (delta_alike.calls 100001 A' _ _ _ _ _ _ _ ?side1 HCA.out ?side3 hc1 HAL.out).mono ?_
                  case side1 => repeat (first | exact HRA.out | (with_reducible refine Kd.C_alloc ?_ _) | (with_reducible refine Kd.C_drewN ?_ _) | (with_reducible refine Kd.C_drew ?_))
                  case side3 => repeat (first | exact HR1.out | (with_reducible refine Kd.C_alloc ?_ _) | (with_reducible refine Kd.C_drewN ?_ _) | (with_reducible refine Kd.C_drew ?_))
                  rintro e w' ⟨rfl, ⟨nd, rfl⟩⟩
                  go_wp2
                  exact ⟨⟨m, p, k + 1, rfl, rfl, by rw [ew], by omega, by have := HZ.out; omega, by have := HZ.out; omega, by have := HZ.out; omega, HF, by repeat (first | exact Drawn0.refl _ | apply Drawn0.step)⟩, by rw [ew]; simp only [intOf]; omega⟩
              · have c3a : decide (0 < m) = false := decide_eq_false c3g
                clear c3g
                by_cases c4 : m < (common (old.drop z.toNat) new : Int)
                · rw [if_pos c4] at hF
                  have c4a : decide (m < (common (old.drop z.toNat) new : Int)) = true := decide_eq_true c4
                  have HF := Aside0.mk hF
                  clear hF c4 c3 c2 c1 ez hz hm0 hm1 hp0 hl0 hl1 hcm
                  go_wp2
                  go_quiet (fail)
                  go_wp2_with (fail)
                  rw [← hdl]
                  refine (delta_alike.calls 100001 A' _ _ _ _ _ _ _ ?side1 HCA.out ?side3 hc1 HAL.out).mono ?_
                  case side1 => repeat (first | exact HRA.out | (with_reducible refine Kd.C_alloc ?_ _) | (with_reducible refine Kd.C_drewN ?_ _) | (with_reducible refine Kd.C_drew ?_))
                  case side3 => repeat (first | exact HR1.out | (with_reducible refine Kd.C_alloc ?_ _) | (with_reducible refine Kd.C_drewN ?_ _) | (with_reducible refine Kd.C_drew ?_))
                  rintro e w' ⟨rfl, ⟨nd, rfl⟩⟩
                  go_wp2
                  exact ⟨⟨(common (old.drop z.toNat) new : Int), z, k + 1, rfl, rfl, by rw [ew], by omega, by have := HZ.out; omega, by have := HZ.out; omega, by have := HZ.out; omega, HF, by repeat (first | exact Drawn0.refl _ | apply Drawn0.step)⟩, by rw [ew]; simp only [intOf]; omega⟩
                · rw [if_neg c4] at hF
                  have c4a : decide (m < (common (old.drop z.toNat) new : Int)) = false := decide_eq_false c4
                  have HF := Aside0.mk hF
                  clear hF c4 c3 c2 c1 ez hz hm0 hm1 hp0 hl0 hl1 hcm
                  go_wp2
                  go_quiet (fail)
                  go_wp2_with (fail)
                  rw [← hdl]
                  refine (delta_alike.calls 100001 A' _ _ _ _ _ _ _ ?side1 HCA.out ?side3 hc1 HAL.out).mono ?_
                  case side1 => repeat (first | exact HRA.out | (with_reducible refine Kd.C_alloc ?_ _) | (with_reducible refine Kd.C_drewN ?_ _) | (with_reducible refine Kd.C_drew ?_))
                  case side3 => repeat (first | exact HR1.out | (with_reducible refine Kd.C_alloc ?_ _) | (with_reducible refine Kd.C_drewN ?_ _) | (with_reducible refine Kd.C_drew ?_))
                  rintro e w' ⟨rfl, ⟨nd, rfl⟩⟩
                  go_wp2
                  exact ⟨⟨m, p, k + 1, rfl, rfl, by rw [ew], by omega, by have := HZ.out; omega, by have := HZ.out; omega, by have := HZ.out; omega, HF, by repeat (first | exact Drawn0.refl _ | apply Drawn0.step)⟩, by rw [ew]; simp only [intOf]; omega⟩
      · have hd3 : decide ((k : Int) < (zs.length : Int)) = false := by simp; omega
        have hF := HF.out
        rw [List.drop_of_length_le (by omega)] at hF
        simp only [bestL] at hF
        have HF' := Aside0.mk hF
        clear hF HF
        go_wp2
        go_ret2
        exact ⟨by rw [HF'.out]; rfl, by repeat (first | exact Drawn0.refl _ | apply Drawn0.step)⟩
end Go.Proofs.Ytmaefdeigienjaa.DeltaM
