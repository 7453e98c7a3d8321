/- EventTells: the program's events answer as the document's, for every choice of the law. -/
import Derived.Test.YtmaefdeigienjaaQEventTellsx12
import Derived.Test.YtmaefdeigienjaaEventEncEventTells
import Derived.Test.YtmaefdeigienjaaEventFaultEventTells
namespace Go.Proofs.Ytmaefdeigienjaa.Pure
open Go.RowKit Go.Proofs.Ytmaefdeigienjaa.QEventTells Go.Proofs.YtmaefdeigienjaaW.PrintWords Go.Proofs.YtmaefdeigienjaaW.PrintLast Go.Proofs.YtmaefdeigienjaaW.PrintMore
def Byt (l : List Int) : Prop := ∀ x ∈ l, 0 ≤ x ∧ x < 256
def Okv (e : S30) : Prop := e.f2.length ≤ 400 ∧ Byt e.f2
theorem w_next (i n : Nat) (h : i < n) (hn : n ≤ 100000) : wrap64 ((i : Int) + 1) = ((i + 1 : Nat) : Int) := by rw [Zig.w64_id _ (by omega) (by omega)]; omega
theorem check_loop (z : List S30) (hn : z.length ≤ 1000) (k : Nat) (hk : 10 ≤ k) (d : Nat) : ∀ (i : Nat) (p : Int), i + d = z.length → 0 ≤ p → p ≤ 4611686018427387904 →
    ∃ E, event_Check.l0 (d + 1 + k) p z (z.length : Int) (i : Int) = some E ∧ repriseref23_Check.l0 (d + 1 + k) z p (i : Int) = some E := by
  induction d with
  | zero =>
    intro i p hi _ _
    rw [show 0 + 1 + k = k + 1 from by omega, event_Check.l0, repriseref23_Check.l0, if_neg (by omega), if_neg (by omega)]
    exact ⟨_, rfl, rfl⟩
  | succ d ih =>
    intro i p hi h0 h1
    have q1 : (i : Int) < (z.length : Int) := by omega
    have q2 : (0 : Int) ≤ (i : Int) := by omega
    rw [show d + 1 + 1 + k = (d + 1 + k) + 1 from by omega, event_Check.l0, repriseref23_Check.l0, if_pos q1, if_pos q2, if_pos q1, if_pos q1, if_pos q2, check_f _ (by omega), Option.bind_some, rfault_f _ (by omega) p h0 h1, Option.bind_some, w_next i z.length (by omega) (by omega)]
    by_cases hc : Ev.chk p (rd_T30 z (i : Int)).f0 (rd_T30 z (i : Int)).f1 (rd_T30 z (i : Int)).f2 (rd_T30 z (i : Int)).f3 (rd_T30 z (i : Int)).f4 = 0
    · obtain ⟨t0, t1, _⟩ := Ev.chk_ok hc
      rw [if_pos hc, if_pos hc]
      exact ih (i + 1) _ (by omega) t0 t1
    · rw [if_neg hc, if_neg hc]
      exact ⟨_, rfl, rfl⟩
theorem check_eq (z : List S30) (hn : z.length ≤ 1000) (k : Nat) (hk : 1100 ≤ k) : ∃ E, event_Check.f k z = some E ∧ repriseref23_Check.f k z = some E := by
  unfold event_Check.f repriseref23_Check.f
  rw [if_neg (by omega), if_neg (by omega)]
  have := check_loop z hn (k - z.length - 1) (by omega) z.length 0 0 (by omega) (by decide) (by decide)
  rwa [show z.length + 1 + (k - z.length - 1) = k by omega] at this
theorem until_loop (z : List S30) (v : Int) (hn : z.length ≤ 1000) (k : Nat) (d : Nat) : ∀ (i : Nat), i + d = z.length →
    ∃ E, event_Until.l0 (d + 1 + k) z v z (z.length : Int) (i : Int) = some E ∧ repriseref23_Until.l0 (d + 1 + k) z v (i : Int) = some E := by
  induction d with
  | zero =>
    intro i hi
    rw [show 0 + 1 + k = k + 1 from by omega, event_Until.l0, repriseref23_Until.l0, if_neg (by omega), if_neg (by omega)]
    exact ⟨_, rfl, rfl⟩
  | succ d ih =>
    intro i hi
    have q1 : (i : Int) < (z.length : Int) := by omega
    have q2 : (0 : Int) ≤ (i : Int) := by omega
    rw [show d + 1 + 1 + k = (d + 1 + k) + 1 from by omega, event_Until.l0, repriseref23_Until.l0, if_pos q1, if_pos q2, if_pos q1, if_pos q1, if_pos q2, w_next i z.length (by omega) (by omega)]
    by_cases hc : (rd_T30 z (i : Int)).f0 > v
    · rw [if_pos hc, if_pos hc]
      exact ⟨_, rfl, rfl⟩
    · rw [if_neg hc, if_neg hc]
      exact ih (i + 1) (by omega)
theorem until_eq (z : List S30) (v : Int) (hn : z.length ≤ 1000) (k : Nat) (hk : 1100 ≤ k) : ∃ E, event_Until.f k z v = some E ∧ repriseref23_Until.f k z v = some E := by
  unfold event_Until.f repriseref23_Until.f
  have := until_loop z v hn (k - z.length - 1) z.length 0 (by omega)
  rwa [show z.length + 1 + (k - z.length - 1) = k by omega] at this
theorem same_eq (t k : Int) (d : List Int) (r c t' k' : Int) (d' : List Int) (r' c' : Int) : ∃ b, event_Same.f t k d r c t' k' d' r' c' = some b ∧ repriseref23_Same.f t k d r c t' k' d' r' c' = some b := by
  unfold event_Same.f bytes_Equal.f repriseref23_Same.f
  rw [Option.bind_some]
  by_cases h1 : t = t'
  · rw [if_pos h1, if_pos h1]
    by_cases h2 : k = k'
    · rw [if_pos h2, if_pos h2]
      by_cases h3 : (strOfNums d).toList = (strOfNums d').toList
      · rw [if_pos (show ((strOfNums d).toList == (strOfNums d').toList) = true from beq_iff_eq.2 h3), if_pos h3]
        by_cases h4 : r = r'
        · rw [if_pos h4]; exact ⟨_, rfl, rfl⟩
        · rw [if_neg h4]; exact ⟨_, rfl, rfl⟩
      · rw [if_neg (show ¬ ((strOfNums d).toList == (strOfNums d').toList) = true from fun h => h3 (beq_iff_eq.1 h)), if_neg h3]; exact ⟨_, rfl, rfl⟩
    · rw [if_neg h2, if_neg h2]; exact ⟨_, rfl, rfl⟩
  · rw [if_neg h1, if_neg h1]; exact ⟨_, rfl, rfl⟩
theorem rsame_self (a b : Int) (l : List Int) (c d : Int) : repriseref23_Same.f a b l c d a b l c d = some true := by
  unfold repriseref23_Same.f
  rw [if_pos rfl, if_pos rfl, if_pos rfl, if_pos rfl]
  simp
theorem tells_l3 (x4 x7 : Int) (Y : List S30) (m n : Int) (ps : List Int) (hps : ∀ p ∈ ps, -9223372036854775808 ≤ p ∧ p < 9223372036854775808) (hn : ps.length ≤ 100) (r0 r1 : Int) (r2 : List Int) (r3 r4 e0 e1 : Int) (e2 : List Int) (e3 e4 : Int) (he : e2.length ≤ 400 ∧ Byt e2) (k : Nat) (hk : 50 ≤ k) (d : Nat) : ∀ (i : Nat), i + d = ps.length →
    repriselaw23_EventTells.l3 (2 * d + 1 + k) x4 x7 Y m n ps (ps.length : Int) (i : Int) r0 r1 r2 r3 r4 e0 e1 e2 e3 e4 = repriselaw23_EventTells.l2 k x4 x7 Y m (wrap64 (n + 1)) r0 r1 r2 r3 r4 := by
  induction d with
  | zero =>
    intro i hi
    rw [show 2 * 0 + 1 + k = k + 1 from by omega, repriselaw23_EventTells.l3, if_neg (by omega)]
  | succ d ih =>
    intro i hi
    have q1 : (i : Int) < (ps.length : Int) := by omega
    have q2 : (0 : Int) ≤ (i : Int) := by omega
    have hp : -9223372036854775808 ≤ rd ps (i : Int) ∧ rd ps (i : Int) < 9223372036854775808 := by
      refine hps _ ?_
      unfold rd
      rw [Int.toNat_natCast, List.getD_eq_getElem?_getD, List.getElem?_eq_getElem (by omega)]
      exact List.getElem_mem _
    obtain ⟨b, hb1, hb2⟩ := same_eq e0 e1 e2 e3 e4 r0 r1 r2 r3 r4
    have hx : ∀ b : Bool, (b != b) = false := fun b => by cases b <;> rfl
    rw [show 2 * (d + 1) + 1 + k = (2 * d + 1 + k) + 1 + 1 from by omega, repriselaw23_EventTells.l3, if_pos q1, if_pos q2, if_pos q1, put_E _ (by omega), Option.bind_some, rput_all _ (by omega), Option.bind_some, if_pos rfl, if_pos rfl]
    unfold event_Right.f
    rw [check_f _ (by omega), Option.bind_some, Option.bind_some, rfault_f _ (by omega) 0 (by decide) (by decide), Option.bind_some, hx, if_neg (by decide), hb1, Option.bind_some, hb2, Option.bind_some, hx, repriselaw23_EventTells.j6, if_neg (by decide), w_next i ps.length (by omega) (by omega)]
    generalize hP : rd ps (i : Int) = p at hp
    by_cases hc : (Ev.putE p e0 e1 e2 e3 e4).2 = 0
    · have hpv : 0 ≤ p ∧ p ≤ 4611686018427387904 := by
        by_cases hq : p < 0 ∨ p > 4611686018427387904
        · obtain ⟨z1, z2⟩ := putE_bad p e0 e1 e2 e3 e4 hq
          rw [z1] at hc
          exact absurd hc z2
        · omega
      have hchk : Ev.chk p e0 e1 e2 e3 e4 = 0 := by rw [← putE_err p e0 e1 e2 e3 e4 hpv.1 hpv.2]; exact hc
      have hlen := putE_len p e0 e1 e2 e3 e4 hpv.1 hpv.2 hchk
      have hby := putE_byte p e0 e1 e2 e3 e4 he.2
      have hrd := Ev.readE_put [] hpv.1 hpv.2 hchk
      rw [List.append_nil] at hrd
      have hl : (Ev.putE p e0 e1 e2 e3 e4).1.length < 140737488355328 := by have := he.1; omega
      rw [if_pos hc, read_E _ (by omega) p _ hl hby hp, Option.bind_some, hrd]
      simp only [if_true]
      rw [rsame_self, Option.bind_some, if_pos rfl]
      exact ih (i + 1) (by omega)
    · rw [if_neg hc]
      exact ih (i + 1) (by omega)
theorem tells_l2 (x4 x7 : Int) (h4 : -9223372036854775808 ≤ x4 ∧ x4 < 9223372036854775808) (h7 : 0 ≤ x7 ∧ x7 < 256) (Y : List S30) (hY : ∀ e ∈ Y, Okv e) (hn : Y.length ≤ 1000) (r0 r1 : Int) (r2 : List Int) (r3 r4 : Int) (d : Nat) : ∀ (k i : Nat), i + d = Y.length → 60 + 8 * d ≤ k →
    repriselaw23_EventTells.l2 k x4 x7 Y (Y.length : Int) (i : Int) r0 r1 r2 r3 r4 = some true := by
  induction d with
  | zero =>
    intro k i hi hk
    obtain ⟨k, rfl⟩ : ∃ m, k = m + 1 := ⟨k - 1, by omega⟩
    rw [repriselaw23_EventTells.l2, if_neg (by omega)]
  | succ d ih =>
    intro k i hi hk
    obtain ⟨k, rfl⟩ : ∃ m, k = (2 * 3 + 1 + m) + 1 := ⟨k - 8, by omega⟩
    have q1 : (i : Int) < (Y.length : Int) := by omega
    have q2 : (0 : Int) ≤ (i : Int) := by omega
    have he : Okv (rd_T30 Y (i : Int)) := by
      refine hY _ ?_
      unfold rd_T30
      rw [Int.toNat_natCast, List.getD_eq_getElem?_getD, List.getElem?_eq_getElem (by omega)]
      exact List.getElem_mem _
    have t7 : Int.tmod x7 8 = x7 % 8 := Int.tmod_eq_emod_of_nonneg h7.1
    have e7 : wrap64 (x7 % 8) = x7 % 8 := Zig.w64_id _ (by omega) (by omega)
    have hps : ∀ p ∈ ([x4, x7 % 8, 0] : List Int), -9223372036854775808 ≤ p ∧ p < 9223372036854775808 := by
      intro p hp
      simp only [List.mem_cons, List.not_mem_nil, or_false] at hp
      rcases hp with rfl | rfl | rfl <;> omega
    have e3 := tells_l3 x4 x7 Y (Y.length : Int) (i : Int) [x4, x7 % 8, 0] hps (by simp) r0 r1 r2 r3 r4 (rd_T30 Y (i : Int)).f0 (rd_T30 Y (i : Int)).f1 (rd_T30 Y (i : Int)).f2 (rd_T30 Y (i : Int)).f3 (rd_T30 Y (i : Int)).f4 he k (by omega) 3 0 (by simp)
    rw [repriselaw23_EventTells.l2, if_pos q1, if_pos q2, if_pos q1, Option.bind_some, t7, e7]
    rw [w_next i Y.length (by omega) (by omega)] at e3
    exact e3.trans (ih k (i + 1) (by omega) (by omega))
theorem bent_f (e0 e1 : Int) (e2 : List Int) (e3 e4 w v : Int) (he : e2.length ≤ 399 ∧ Byt e2) : ∃ t : Int × Int × List Int × Int × Int, repriselaw23_bent.f e0 e1 e2 e3 e4 w v = some t ∧ t.2.2.1.length ≤ 400 ∧ Byt t.2.2.1 := by
  obtain ⟨hl, hb⟩ := he
  unfold repriselaw23_bent.f
  by_cases h0 : Int.tmod w 6 = 0
  · rw [if_pos h0]; exact ⟨_, rfl, by simp only; omega, hb⟩
  · rw [if_neg h0]
    by_cases h1 : Int.tmod w 6 = 1
    · rw [if_pos h1]; exact ⟨_, rfl, by simp only; omega, hb⟩
    · rw [if_neg h1]
      by_cases h2 : Int.tmod w 6 = 2
      · rw [if_pos h2]; exact ⟨_, rfl, by simp only; omega, hb⟩
      · rw [if_neg h2]
        by_cases h3 : Int.tmod w 6 = 3
        · rw [if_pos h3]; exact ⟨_, rfl, by simp only; omega, hb⟩
        · rw [if_neg h3]
          by_cases h4 : Int.tmod w 6 = 4
          · rw [if_pos h4, if_pos (by simp; omega), Option.bind_some, List.nil_append, if_pos (by omega)]
            refine ⟨_, rfl, by simp only [List.length_append, List.length_singleton]; omega, fun x hx => ?_⟩
            rcases List.mem_append.1 hx with h | h
            · exact hb x h
            · rw [List.mem_singleton.1 h]; omega
          · rw [if_neg h4]; exact ⟨_, rfl, by simp only; omega, hb⟩
theorem tells_l1 (x4 x5 x6 x7 : Int) (h4 : -9223372036854775808 ≤ x4 ∧ x4 < 9223372036854775808) (h7 : 0 ≤ x7 ∧ x7 < 256) (y : List S30) (hy : ∀ e ∈ y, Okv e) (hyn : y.length ≤ 500) (Z : List (List S30)) (hZ : ∀ z ∈ Z, z.length ≤ 1000) (hn : Z.length ≤ 100) (r0 r1 : Int) (r2 : List Int) (r3 r4 : Int) (hr : r2.length ≤ 60 ∧ Byt r2) (k : Nat) (hk : 5000 ≤ k) (d : Nat) : ∀ (i : Nat), i + d = Z.length →
    repriselaw23_EventTells.l1 (d + 1 + k) x4 x5 x6 x7 y Z (Z.length : Int) (i : Int) r0 r1 r2 r3 r4 = some true := by
  induction d with
  | zero =>
    intro i hi
    obtain ⟨t, ht, hl, hb⟩ := bent_f r0 r1 r2 r3 r4 x6 x5 ⟨by omega, hr.2⟩
    rw [show 0 + 1 + k = k + 1 from by omega, repriselaw23_EventTells.l1, if_neg (by omega), ht, Option.bind_some, Option.bind_some, if_pos (by simp; omega), Option.bind_some]
    refine tells_l2 x4 x7 h4 h7 _ ?_ (by first | (simp; done) | (simp; omega)) r0 r1 r2 r3 r4 (y.length + 2) k 0 (by first | (simp; done) | (simp; omega)) (by omega)
    intro e he
    rcases List.mem_append.1 he with h | h
    · simp only [List.mem_cons, List.not_mem_nil, or_false] at h
      rcases h with rfl | rfl
      · exact ⟨by simp only; omega, hr.2⟩
      · exact ⟨hl, hb⟩
    · exact hy e h
  | succ d ih =>
    intro i hi
    have q1 : (i : Int) < (Z.length : Int) := by omega
    have q2 : (0 : Int) ≤ (i : Int) := by omega
    have hz : (rd_L7 Z (i : Int)).length ≤ 1000 := by
      refine hZ _ ?_
      unfold rd_L7
      rw [Int.toNat_natCast, List.getD_eq_getElem?_getD, List.getElem?_eq_getElem (by omega)]
      exact List.getElem_mem _
    obtain ⟨E, c1, c2⟩ := check_eq (rd_L7 Z (i : Int)) hz (d + 1 + k) (by omega)
    obtain ⟨U, u1, u2⟩ := until_eq (rd_L7 Z (i : Int)) x5 hz (d + 1 + k) (by omega)
    obtain ⟨V, v1, v2⟩ := until_eq (rd_L7 Z (i : Int)) (wrap64 (Int.tmod x7 20)) hz (d + 1 + k) (by omega)
    rw [show d + 1 + 1 + k = (d + 1 + k) + 1 from by omega, repriselaw23_EventTells.l1, if_pos q1, if_pos q2, if_pos q1, c1, Option.bind_some, c2, Option.bind_some, if_pos rfl, if_pos rfl, u1, Option.bind_some, u2, Option.bind_some, if_pos rfl, v1, Option.bind_some, v2, Option.bind_some, if_pos rfl, w_next i Z.length (by omega) (by omega)]
    exact ih (i + 1) (by omega)
theorem tells_j2 (k : Nat) (hk : 6000 ≤ k) (l1 x y : List S30) (x4 x5 x6 x7 : Int) (h4 : -9223372036854775808 ≤ x4 ∧ x4 < 9223372036854775808) (h7 : 0 ≤ x7 ∧ x7 < 256) (hl : l1.length ≤ 500) (hx : x.length ≤ 500) (hy : ∀ e ∈ y, Okv e) (hyn : y.length ≤ 500) (r0 r1 : Int) (r2 : List Int) (r3 r4 : Int) (hr : r2.length ≤ 60 ∧ Byt r2) :
    repriselaw23_EventTells.j2 k l1 x4 x5 x6 x7 x y r0 r1 r2 r3 r4 = some true := by
  obtain ⟨k, rfl⟩ : ∃ m, k = (3 + 1 + m) + 1 := ⟨k - 5, by omega⟩
  rw [repriselaw23_EventTells.j2, Option.bind_some]
  refine tells_l1 x4 x5 x6 x7 h4 h7 y hy hyn [l1, x, y] ?_ (by simp) r0 r1 r2 r3 r4 hr k (by omega) 3 0 (by simp)
  intro z hz
  simp only [List.mem_cons, List.not_mem_nil, or_false] at hz
  rcases hz with rfl | rfl | rfl <;> omega
theorem ok_of_evs : ∀ (xs : List S30) (p : Int), EvsOk p xs → ∀ e ∈ xs, e.f2.length ≤ 399 ∧ Byt e.f2
  | [], _, _, e, he => by cases he
  | x :: r, p, h, e, he => by
    rcases List.mem_cons.1 he with rfl | h2
    · exact ⟨by have := h.2.1; omega, h.2.2.1⟩
    · exact ok_of_evs r _ h.2.2.2 e h2
theorem tells_l0 (l1 : List S30) (l2 l3 : List Int) (hl1 : l1.length ≤ 15) (hl2 : l2.length ≤ 20) (hb2 : Byt l2) (hl3 : l3.length ≤ 10) (hb3 : Byt l3) (x4 x5 x6 x7 : Int) (h4 : -9223372036854775808 ≤ x4 ∧ x4 < 9223372036854775808) (h7 : 0 ≤ x7 ∧ x7 < 256) (r0 r1 : Int) (r2 : List Int) (r3 r4 : Int) (hr : r2.length ≤ 60 ∧ Byt r2) (k : Nat) (hk : 7000 ≤ k) (d : Nat) : ∀ (i : Nat), i + d = l1.length →
    repriselaw23_EventTells.l0 (d + 1 + k) l1 l2 l3 x4 x5 x6 x7 (i : Int) r0 r1 r2 r3 r4 = some true := by
  induction d with
  | zero =>
    intro i hi
    obtain ⟨xs, hx, hxl, ho⟩ := events_f l2 l3 (by omega) hb2 (by omega) hb3 k (by omega)
    rw [show 0 + 1 + k = k + 1 from by omega, repriselaw23_EventTells.l0, if_neg (by omega), hx, Option.bind_some, if_pos (by simp; omega), Option.bind_some, List.nil_append]
    have hok := ok_of_evs xs 0 ho
    by_cases hp : (xs.length : Int) > 0
    · have w7 : wrap64 x7 = x7 := Zig.w64_id _ (by omega) (by omega)
      have t7 : Int.tmod x7 (xs.length : Int) = x7 % (xs.length : Int) := Int.tmod_eq_emod_of_nonneg h7.1
      have m1 : 0 ≤ x7 % (xs.length : Int) := Int.emod_nonneg _ (by omega)
      have m2 : x7 % (xs.length : Int) < (xs.length : Int) := Int.emod_lt_of_pos _ (by omega)
      rw [w7, t7]
      generalize x7 % (xs.length : Int) = q at m1 m2
      have hq : rd_T30 xs q ∈ xs := by
        unfold rd_T30
        rw [List.getD_eq_getElem?_getD, List.getElem?_eq_getElem (by omega)]
        exact List.getElem_mem _
      obtain ⟨t, ht, hl, hb⟩ := bent_f (rd_T30 xs q).f0 (rd_T30 xs q).f1 (rd_T30 xs q).f2 (rd_T30 xs q).f3 (rd_T30 xs q).f4 x6 x5 (hok _ hq)
      rw [if_pos hp, if_neg (by omega), if_pos m1, if_pos m2, ht, Option.bind_some]
      refine tells_j2 k (by omega) l1 xs _ x4 x5 x6 x7 h4 h7 (by omega) (by omega) (fun e he => ?_) (by rw [List.length_set]; omega) r0 r1 r2 r3 r4 hr
      rcases List.mem_or_eq_of_mem_set he with h | rfl
      · have := hok e h; exact ⟨by omega, this.2⟩
      · exact ⟨hl, hb⟩
    · rw [if_neg hp]
      exact tells_j2 k (by omega) l1 xs xs x4 x5 x6 x7 h4 h7 (by omega) (by omega) (fun e he => by have := hok e he; exact ⟨by omega, this.2⟩) (by omega) r0 r1 r2 r3 r4 hr
  | succ d ih =>
    intro i hi
    have q1 : (i : Int) < (l1.length : Int) := by omega
    have q2 : (0 : Int) ≤ (i : Int) := by omega
    rw [show d + 1 + 1 + k = (d + 1 + k) + 1 from by omega, repriselaw23_EventTells.l0, if_pos q1, if_pos q2, w_next i l1.length (by omega) (by omega)]
    by_cases hc : (((rd_T30 l1 (i : Int)).f2).length : Int) > 40
    · rw [if_pos hc]
    · rw [if_neg hc]
      exact ih (i + 1) (by omega)
/-- the one pure statement of the law -/
def EventTellsPure : Prop := ∀ (a0_0 a0_1 : Int) (l0_2 : List Int) (a0_3 a0_4 : Int) (l1 : List S30) (l2 l3 : List Int) (a4 a5 a6 a7 : Int), Byt l0_2 → Byt l2 → Byt l3 → (-9223372036854775808 ≤ a4 ∧ a4 < 9223372036854775808) → (0 ≤ a7 ∧ a7 < 256) →
  ∃ k, repriselaw23_EventTells.f k a0_0 a0_1 l0_2 a0_3 a0_4 l1 l2 l3 a4 a5 a6 a7 = some true
theorem EventTells : EventTellsPure := by
  intro r0 r1 r2 r3 r4 l1 l2 l3 a4 a5 a6 a7 hb0 hb2 hb3 h4 h7
  refine ⟨8000, ?_⟩
  unfold repriselaw23_EventTells.f repriselaw23_known.f
  rw [Option.bind_some, if_pos rfl]
  by_cases c1 : (r2.length : Int) > 60
  · rw [if_pos c1, repriselaw23_EventTells.j0, if_pos rfl]
  · rw [if_neg c1]
    by_cases c2 : (l1.length : Int) > 15
    · rw [if_pos c2, repriselaw23_EventTells.j0, if_pos rfl]
    · rw [if_neg c2]
      by_cases c3 : (l2.length : Int) > 20
      · rw [if_pos c3, repriselaw23_EventTells.j0, if_pos rfl]
      · rw [if_neg c3]
        by_cases c4 : (l3.length : Int) > 10
        · rw [decide_eq_true c4, repriselaw23_EventTells.j0, if_pos rfl]
        · rw [decide_eq_false c4, repriselaw23_EventTells.j0, if_neg (by decide)]
          have e := tells_l0 l1 l2 l3 (by omega) (by omega) hb2 (by omega) hb3 a4 a5 a6 a7 h4 h7 r0 r1 r2 r3 r4 ⟨by omega, hb0⟩ (7999 - l1.length - 1) (by omega) l1.length 0 (by omega)
          rw [show l1.length + 1 + (7999 - l1.length - 1) = 7999 by omega] at e
          exact e
end Go.Proofs.Ytmaefdeigienjaa.Pure
