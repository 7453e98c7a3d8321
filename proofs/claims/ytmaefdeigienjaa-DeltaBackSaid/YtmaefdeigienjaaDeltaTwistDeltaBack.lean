/- The law's pieces of other bytes: they are some bytes, and not many. -/
import Derived.Test.YtmaefdeigienjaaDeltaFnsDeltaBack
namespace Go.Proofs.Ytmaefdeigienjaa.QDeltaBack
open Go.RowKit Go.Proofs.YtmaefdeigienjaaW.PrintWords Go.Proofs.YtmaefdeigienjaaW.PrintLast Go.Proofs.YtmaefdeigienjaaW.PrintMore
theorem twist_l0 (old l : List Int) (ho : old.length ≤ 1000) (hb : ∀ x ∈ old, 0 ≤ x ∧ x < 256) (hl : l.length ≤ 100) (hw : ∀ x ∈ l, 0 ≤ x ∧ x < 65536) : ∀ (m i : Nat) (o : List Int), i + m = l.length → o.length ≤ 12 * i → (∀ x ∈ o, 0 ≤ x ∧ x < 256) →
    ∃ r, (∀ k, m + 1 ≤ k → repriselaw5_twist.l0 k old l o (i : Int) = some r) ∧ r.length ≤ 12 * l.length ∧ ∀ x ∈ r, 0 ≤ x ∧ x < 256 := by
  intro m
  induction m with
  | zero =>
    intro i o h1 h2 h3
    refine ⟨o, fun k hk => ?_, by omega, h3⟩
    obtain ⟨k, rfl⟩ : ∃ j, k = j + 1 := ⟨k - 1, by omega⟩
    rw [repriselaw5_twist.l0, if_neg (by omega)]
  | succ m ih =>
    intro i o h1 h2 h3
    have hlt : i < l.length := by omega
    have hx := hw l[i] (List.getElem_mem hlt)
    have ew : wrap64 ((i : Int) + 1) = ((i + 1 : Nat) : Int) := by unfold wrap64; omega
    have hrd := DeltaM.rd_at l i hlt
    generalize l[i] = x at *
    have t1 : Int.tmod x 3 = x % 3 := Int.tmod_eq_emod_of_nonneg hx.1
    have t2 : IntKind.u16.wrap (Int.tdiv x 3) = x / 3 := by rw [Int.tdiv_eq_ediv_of_nonneg hx.1, IntKind.wrap_u16]; omega
    have t3 : IntKind.u16.wrap (Int.tdiv x 64) = x / 64 := by rw [Int.tdiv_eq_ediv_of_nonneg hx.1, IntKind.wrap_u16]; omega
    have t4 : wrap64 (x / 3) = x / 3 := Zig.w64_id _ (by omega) (by omega)
    have t5 : Int.tmod (x / 3) (old.length : Int) = x / 3 % old.length := Int.tmod_eq_emod_of_nonneg (by omega)
    have t6 : Int.tmod (x / 64) 12 = x / 64 % 12 := Int.tmod_eq_emod_of_nonneg (by omega)
    have t7 : wrap64 (x / 64 % 12) = x / 64 % 12 := Zig.w64_id _ (by omega) (by omega)
    have t8 : Int.tmod (x / 3) 4 = x / 3 % 4 := Int.tmod_eq_emod_of_nonneg (by omega)
    have hone : ∀ y : Int, 0 ≤ y → y < 256 → ∃ r, (∀ k, m + 1 ≤ k → repriselaw5_twist.l0 k old l (o ++ [y]) ((i + 1 : Nat) : Int) = some r) ∧ r.length ≤ 12 * l.length ∧ ∀ x ∈ r, 0 ≤ x ∧ x < 256 := fun y g1 g2 =>
      ih (i + 1) (o ++ [y]) (by omega) (by rw [List.length_append, List.length_singleton]; omega) (fun z hz => (List.mem_append.1 hz).elim (h3 z) (fun hz => by rw [List.mem_singleton.1 hz]; exact ⟨g1, g2⟩))
    by_cases c1 : 0 < old.length
    · by_cases c2 : x % 3 > 0
      · have g1 := Int.emod_nonneg (x / 3) (b := (old.length : Int)) (by omega)
        have g2 := Int.emod_lt_of_pos (x / 3) (b := (old.length : Int)) (by omega)
        generalize hat : x / 3 % (old.length : Int) = at_ at *
        have g3 : 0 ≤ x / 64 % 12 ∧ x / 64 % 12 < 12 := by omega
        generalize x / 64 % 12 = c at *
        have t9 : wrap64 (at_ + c) = at_ + c := Zig.w64_id _ (by omega) (by omega)
        obtain ⟨hi, hhi⟩ : ∃ hi, mn (old.length : Int) (at_ + c) = hi := ⟨_, rfl⟩
        have g4 : at_ ≤ hi ∧ hi ≤ old.length ∧ hi ≤ at_ + 12 := by rw [← hhi]; unfold mn; split <;> omega
        have g5 : ((old.take hi.toNat).drop at_.toNat).length ≤ 12 := by rw [List.length_drop, List.length_take]; omega
        obtain ⟨r, r1, r2, r3⟩ := ih (i + 1) (o ++ (old.take hi.toNat).drop at_.toNat) (by omega) (by rw [List.length_append]; omega) (fun z hz => (List.mem_append.1 hz).elim (h3 z) (fun hz => hb z (List.mem_of_mem_take (List.mem_of_mem_drop hz))))
        refine ⟨r, fun k hk => ?_, r2, r3⟩
        obtain ⟨k, rfl⟩ : ∃ j, k = j + 1 := ⟨k - 1, by omega⟩
        rw [repriselaw5_twist.l0, if_pos (by omega), hrd, t1, t2, t3, t4, t5, t6, t7, t9, hhi, ew, r1 k (by omega)]
        rw [if_pos (by omega), if_pos (by omega), if_pos (by omega), if_neg (by omega), if_pos (by omega), if_pos (by omega), if_pos (by omega), if_pos (by omega)]
      · obtain ⟨r, r1, r2, r3⟩ := hone ((x / 3 % 4) % 256) (by omega) (by omega)
        refine ⟨r, fun k hk => ?_, r2, r3⟩
        obtain ⟨k, rfl⟩ : ∃ j, k = j + 1 := ⟨k - 1, by omega⟩
        rw [repriselaw5_twist.l0, if_pos (by omega), hrd, t1, if_pos (by omega), if_pos (by omega), if_neg c2, t2, t8, ew, r1 k (by omega), if_pos (by omega)]
    · obtain ⟨r, r1, r2, r3⟩ := hone ((x / 3 % 4) % 256) (by omega) (by omega)
      refine ⟨r, fun k hk => ?_, r2, r3⟩
      obtain ⟨k, rfl⟩ : ∃ j, k = j + 1 := ⟨k - 1, by omega⟩
      rw [repriselaw5_twist.l0, if_pos (by omega), hrd, if_neg (by omega), t2, t8, ew, r1 k (by omega), if_pos (by omega), if_pos (by omega)]
theorem twist_f (old l : List Int) (ho : old.length ≤ 1000) (hb : ∀ x ∈ old, 0 ≤ x ∧ x < 256) (hl : l.length ≤ 100) (hw : ∀ x ∈ l, 0 ≤ x ∧ x < 65536) :
    ∃ r, (∀ k, l.length + 1 ≤ k → repriselaw5_twist.f k old l = some r) ∧ r.length ≤ 12 * l.length ∧ ∀ x ∈ r, 0 ≤ x ∧ x < 256 :=
  twist_l0 old l ho hb hl hw l.length 0 [] (by omega) (by simp) (by simp)
theorem wf16_iff {x : Int} (h : (Lit.int .u16 x).wf = true) : 0 ≤ x ∧ x < 65536 := by
  have e : IntKind.u16.max = 65535 := by decide
  have e0 : IntKind.u16.min = 0 := by decide
  simp only [Lit.wf, Bool.and_eq_true, decide_eq_true_eq] at h
  omega
end Go.Proofs.Ytmaefdeigienjaa.QDeltaBack
