/- CrcTurned: bytes of which one is another one, or four neighbours are, have another sum; for all bytes, every place and change. -/
import Derived.Test.YtkgdmbddenfkpaaCrcFnsTurned
import Derived.Test.YtkgdmbddenfkpaaQCrcTurnedx2
namespace Go.Proofs.Ytkgdmbddenfkpaa.Pure
open Go.RowKit Go.Proofs.Ytkgdmbddenfkpaa.QCrcTurned Go.Proofs.YtkgdmbddenfkpaaW.PrintWords Go.Proofs.YtkgdmbddenfkpaaW.PrintLast Go.Proofs.YtkgdmbddenfkpaaW.PrintMore
theorem rd_nat (l : List Int) (i : Nat) (hi : i < l.length) : rd l (i : Int) = l[i] := by
  unfold rd
  rw [Int.toNat_natCast, List.getD_eq_getElem?_getD, List.getElem?_eq_getElem hi, Option.getD_some]
theorem ends (n : Nat) (c l : List Int) (hl : c.length = l.length) (hc : ∀ x ∈ c, 0 ≤ x ∧ x < 256) (hb : ∀ x ∈ l, 0 ≤ x ∧ x < 256) (ho : ∀ j, j < n ∨ n + 4 ≤ j → c[j]? = l[j]?) :
    ((((CrcW.moreI 0 c : Nat) : Int) == ((CrcW.moreI 0 l : Nat) : Int)) == decide (c = l)) = true := by
  rw [beq_iff_eq, Bool.eq_iff_iff, beq_iff_eq, decide_eq_true_iff]
  constructor
  · intro h; exact CrcW.sum_ne n c l hl hc hb ho (by omega)
  · intro h; rw [h]
theorem turned_l0 (l : List Int) (x2 : Int) (hlen : l.length ≤ 300) (hb : ∀ x ∈ l, 0 ≤ x ∧ x < 256) (n : Nat) (hn : n < l.length) (d : Nat) : ∀ (i k : Nat) (c : List Int), i + d = 4 → d < k →
    c.length = l.length → (∀ x ∈ c, 0 ≤ x ∧ x < 256) → (∀ j, j < n ∨ n + i ≤ j → c[j]? = l[j]?) → repriselaw2_CrcTurned.l0 k l x2 c (n : Int) (decide (c = l)) (i : Int) = some true := by
  induction d with
  | zero =>
    intro i k c hi hk hl hc ho
    obtain ⟨k, rfl⟩ : ∃ m, k = m + 1 := ⟨k - 1, by omega⟩
    obtain rfl : i = 4 := by omega
    rw [repriselaw2_CrcTurned.l0, if_neg (by omega), sum_f _ hc, Option.bind_some, sum_f _ hb, Option.bind_some, ends n c l hl hc hb ho]
  | succ d ih =>
    intro i k c hi hk hl hc ho
    obtain ⟨k, rfl⟩ : ∃ m, k = m + 1 := ⟨k - 1, by omega⟩
    rw [repriselaw2_CrcTurned.l0, if_pos (by omega), Zig.w64_id ((n : Int) + i) (by omega) (by omega)]
    by_cases hlt : n + i < l.length
    · rw [if_pos (by omega), if_pos (by omega), Zig.w64_id (8 * (i : Int)) (by omega) (by omega), if_pos (by omega), Option.bind_some, Zig.w64_id ((i : Int) + 1) (by omega) (by omega),
        show (n : Int) + (i : Int) = ((n + i : Nat) : Int) from by omega, show (i : Int) + 1 = ((i + 1 : Nat) : Int) from by omega, Int.toNat_natCast, if_pos (show ((n + i : Nat) : Int) < (l.length : Int) by omega)]
      generalize hv : Go.bits .xor .u8 (rd c ((n + i : Nat) : Int)) _ = v
      have hv2 : 0 ≤ v ∧ v < 256 := by
        rw [← hv]
        have r := hc c[n + i] (List.getElem_mem (by omega))
        rw [rd_nat c (n + i) (by omega), u8_xor _ _ r.1 r.2 (by omega) (by omega)]
        have := Nat.xor_lt_two_pow (n := 8) (x := (c[n + i]).toNat) (y := ((shr IntKind.u32 x2 (8 * (i : Int)) % 256)).toNat) (by omega) (by omega)
        omega
      have hl' : (c.set (n + i) v).length = l.length := by rw [List.length_set]; exact hl
      have hc' : ∀ x ∈ c.set (n + i) v, 0 ≤ x ∧ x < 256 := by
        intro x hx
        rcases List.mem_or_eq_of_mem_set hx with h | h
        · exact hc x h
        · rw [h]; exact hv2
      have ho' : ∀ j, j < n ∨ n + (i + 1) ≤ j → (c.set (n + i) v)[j]? = l[j]? := by
        intro j hj
        rw [List.getElem?_set_ne (by omega)]
        exact ho j (by omega)
      have step : ∀ b : Bool, b = decide (c.set (n + i) v = l) → repriselaw2_CrcTurned.l0 k l x2 (c.set (n + i) v) (n : Int) b ((i + 1 : Nat) : Int) = some true := by
        intro b hb'; rw [hb']; exact ih (i + 1) k _ (by omega) (by omega) hl' hc' ho'
      by_cases hcl : c = l
      · rw [if_pos (by simp [hcl])]
        apply step
        rw [rd_nat _ (n + i) (by omega), rd_nat _ (n + i) (by omega), List.getElem_set_self, Bool.eq_iff_iff, beq_iff_eq, decide_eq_true_iff]
        constructor
        · intro h
          rw [hcl]
          apply List.ext_getElem (by simp)
          intro j h1 h2
          rw [List.getElem_set]
          split
          · next e => subst e; exact h
          · rfl
        · intro h
          have := congrArg (fun z => z[n + i]?) h
          rw [List.getElem?_set_self (by omega), List.getElem?_eq_getElem (by omega)] at this
          exact Option.some.inj this
      · rw [if_neg (by simp [hcl])]
        apply step
        symm
        rw [decide_eq_false_iff_not]
        intro h
        apply hcl
        apply List.ext_getElem?
        intro j
        by_cases hj : j < n ∨ n + i ≤ j
        · exact ho j hj
        · have := congrArg (fun z => z[j]?) h
          rwa [List.getElem?_set_ne (by omega)] at this
    · rw [if_neg (by omega), sum_f _ hc, Option.bind_some, sum_f _ hb, Option.bind_some, ends n c l hl hc hb]
      intro j hj
      by_cases hj2 : j < n ∨ n + i ≤ j
      · exact ho j hj2
      · omega
theorem CrcTurned : repriselaw2_CrcTurned.Pure := by
  intro l0 a1 a2 _ hl hw h1 h2
  have hb := byte_of hw
  have b1 := Zig.wf_u16 h1
  refine ⟨6, ?_⟩
  unfold repriselaw2_CrcTurned.f repriselaw2_known.f
  rw [Option.bind_some, if_pos rfl]
  have key : ∀ b : Bool, (b = false → l0.length ≤ 300 ∧ l0.length ≠ 0) → repriselaw2_CrcTurned.j0 6 l0 a1 a2 b = some true := by
    intro b hb'
    rw [repriselaw2_CrcTurned.j0]
    cases b with
    | true => rw [if_pos rfl]
    | false =>
      obtain ⟨g1, g2⟩ := hb' rfl
      rw [if_neg (by decide), List.nil_append, List.length_nil, if_pos (by omega), Option.bind_some, if_neg (by omega), Zig.w64_id a1 (by omega) (by omega), Int.tmod_eq_emod_of_nonneg b1.1]
      have q0 := Int.emod_nonneg a1 (b := (l0.length : Int)) (by omega)
      have q1 := Int.emod_lt_of_pos a1 (b := (l0.length : Int)) (by omega)
      obtain ⟨n, hn⟩ := Int.eq_ofNat_of_zero_le q0
      rw [hn] at q1 ⊢
      have := turned_l0 l0 a2 g1 hb n (by omega) 4 0 5 l0 rfl (by omega) rfl hb (fun _ _ => rfl)
      simpa using this
  by_cases c1 : (l0.length : Int) > 300
  · rw [if_pos c1]; exact key true (by simp)
  · rw [if_neg c1]
    by_cases c2 : (l0.length : Int) = 0
    · rw [if_pos c2]; exact key true (by simp)
    · rw [if_neg c2]; exact key _ (fun _ => by omega)
end Go.Proofs.Ytkgdmbddenfkpaa.Pure
