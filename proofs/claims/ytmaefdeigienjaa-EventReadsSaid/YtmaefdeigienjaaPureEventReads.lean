/- EventReads: the program's Read answers as the document's at every bytes of the law; for every choice of the law. -/
import Derived.Test.YtmaefdeigienjaaQEventReadsx14
import Derived.Test.YtmaefdeigienjaaEventEncEventReads
import Derived.Test.YtmaefdeigienjaaEventRefEventReads
namespace Go.Proofs.Ytmaefdeigienjaa.Pure
open Go.RowKit Go.Proofs.Ytmaefdeigienjaa.QEventReads Go.Proofs.YtmaefdeigienjaaW.PrintWords Go.Proofs.YtmaefdeigienjaaW.PrintLast Go.Proofs.YtmaefdeigienjaaW.PrintMore
def Byt (l : List Int) : Prop := l.length ≤ 10000 ∧ ∀ x ∈ l, 0 ≤ x ∧ x < 256
theorem rput_E (k : Nat) (hk : 12 ≤ k) (prev tick kind : Int) (data : List Int) (rows cols : Int) (h0 : 0 ≤ prev) (h1 : prev ≤ 4611686018427387904) (h : Ev.chk prev tick kind data rows cols = 0) :
    repriseref23_Put.f k prev tick kind data rows cols = some (Ev.putE prev tick kind data rows cols) := by
  obtain ⟨t0, t1, t2, hkind, hd, hn2, h2⟩ := Ev.chk_ok h
  unfold repriseref23_Put.f
  rw [rfault_f k (by omega) prev h0 h1, Option.bind_some, if_pos h, Ev.putE_ok h0 h1 h]
  have e1 : IntKind.u64.wrap (wrap64 (tick - prev)) = (((tick - prev).toNat : Nat) : Int) := by
    rw [Zig.w64_id _ (by omega) (by omega), Zig.u64w]; omega
  have e2 : IntKind.u64.wrap kind = ((kind.toNat : Nat) : Int) := by rw [Zig.u64w]; omega
  have l1 := Leb.enc_len10 (tick - prev).toNat (by omega)
  have l2 := Leb.enc_len10 kind.toNat (by omega)
  rw [e1, rput_f k _ (by omega) (by omega), Option.bind_some, e2, rput_f k _ (by omega) (by omega), Option.bind_some, if_pos (by omega), Option.bind_some]
  by_cases k2 : kind = 2
  · obtain ⟨_, r1, r2, c1, c2⟩ := h2 k2
    have l3 := Leb.enc_len10 rows.toNat (by omega)
    have l4 := Leb.enc_len10 cols.toNat (by omega)
    have e3 : IntKind.u64.wrap rows = ((rows.toNat : Nat) : Int) := by rw [Zig.u64w]; omega
    have e4 : IntKind.u64.wrap cols = ((cols.toNat : Nat) : Int) := by rw [Zig.u64w]; omega
    rw [if_pos k2, if_pos k2, e3, rput_f k _ (by omega) (by omega), Option.bind_some, if_pos (by rw [List.length_append]; omega), Option.bind_some, e4, rput_f k _ (by omega) (by omega), Option.bind_some,
      if_pos (by rw [List.length_append, List.length_append]; omega), List.append_assoc, List.append_assoc]
  · have l5 := Leb.enc_len10 data.length (by omega)
    have l6 : (Leb.encBytes data).length < 140737488300000 := by unfold Leb.encBytes; rw [List.length_append]; omega
    rw [if_neg k2, if_neg k2, rputBytes_f k data (by omega) (by omega), Option.bind_some, if_pos (by rw [List.length_append]; omega)]
theorem rsame_self (a b : Int) (l : List Int) (c d : Int) : repriseref23_Same.f a b l c d a b l c d = some true := by
  unfold repriseref23_Same.f
  rw [if_pos rfl, if_pos rfl, if_pos rfl, if_pos rfl]
  simp
theorem reads_l2 (x1 x5 : Int) (y : List Int) (hy : Byt y) (Y : List (List Int)) (m n : Int) (ps : List Int) (hps : ∀ p ∈ ps, -9223372036854775808 ≤ p ∧ p < 9223372036854775808) (hn : ps.length ≤ 100) (k : Nat) (hk : 50 ≤ k) (d : Nat) : ∀ (i : Nat), i + d = ps.length →
    repriselaw23_EventReads.l2 (d + 1 + k) x1 x5 y Y m n ps (ps.length : Int) (i : Int) = repriselaw23_EventReads.l1 k x1 x5 Y m (wrap64 (n + 1)) := by
  induction d with
  | zero =>
    intro i hi
    rw [show 0 + 1 + k = k + 1 from by omega, repriselaw23_EventReads.l2, if_neg (by omega)]
  | succ d ih =>
    intro i hi
    have q1 : (i : Int) < (ps.length : Int) := by omega
    have q2 : (0 : Int) ≤ (i : Int) := by omega
    have ei : wrap64 ((i : Int) + 1) = ((i + 1 : Nat) : Int) := by rw [Zig.w64_id _ (by omega) (by omega)]; omega
    have hp : -9223372036854775808 ≤ rd ps (i : Int) ∧ rd ps (i : Int) < 9223372036854775808 := by
      refine hps _ ?_
      unfold rd
      rw [Int.toNat_natCast, List.getD_eq_getElem?_getD, List.getElem?_eq_getElem (by omega)]
      exact List.getElem_mem _
    have hl : y.length < 140737488355328 := by have := hy.1; omega
    have hk1 : 40 ≤ d + 1 + k := by omega
    rw [show d + 1 + 1 + k = (d + 1 + k) + 1 from by omega, repriselaw23_EventReads.l2, if_pos q1, if_pos q2, if_pos q1, read_E _ hk1 _ y hl hy.2 hp, Option.bind_some, rread_E _ hk1 _ y hl hy.2 hp, Option.bind_some, if_pos rfl, if_pos rfl, rsame_self, Option.bind_some, if_pos rfl, ei]
    exact ih (i + 1) (by omega)
theorem reads_l1 (x1 x5 : Int) (h1 : -9223372036854775808 ≤ x1 ∧ x1 < 9223372036854775808) (h5 : 0 ≤ x5 ∧ x5 < 256) (Y : List (List Int)) (hY : ∀ y ∈ Y, Byt y) (hn : Y.length ≤ 100) (d : Nat) : ∀ (k i : Nat), i + d = Y.length → 60 + 5 * d ≤ k →
    repriselaw23_EventReads.l1 k x1 x5 Y (Y.length : Int) (i : Int) = some true := by
  induction d with
  | zero =>
    intro k i hi hk
    obtain ⟨k, rfl⟩ : ∃ m, k = m + 1 := ⟨k - 1, by omega⟩
    rw [repriselaw23_EventReads.l1, if_neg (by omega)]
  | succ d ih =>
    intro k i hi hk
    obtain ⟨k, rfl⟩ : ∃ m, k = (3 + 1 + m) + 1 := ⟨k - 5, by omega⟩
    have q1 : (i : Int) < (Y.length : Int) := by omega
    have q2 : (0 : Int) ≤ (i : Int) := by omega
    have ei : wrap64 ((i : Int) + 1) = ((i + 1 : Nat) : Int) := by rw [Zig.w64_id _ (by omega) (by omega)]; omega
    have hy : Byt (rd_L2 Y (i : Int)) := by
      refine hY _ ?_
      unfold rd_L2
      rw [Int.toNat_natCast, List.getD_eq_getElem?_getD, List.getElem?_eq_getElem (by omega)]
      exact List.getElem_mem _
    have ht : Int.tmod x5 4 = x5 % 4 := Int.tmod_eq_emod_of_nonneg h5.1
    have e1 : wrap64 (x5 % 4) = x5 % 4 := Zig.w64_id _ (by omega) (by omega)
    have e2 : wrap64 (4611686018427387904 - x5 % 4) = 4611686018427387904 - x5 % 4 := Zig.w64_id _ (by omega) (by omega)
    have hps : ∀ p ∈ ([x1, 0, 4611686018427387904 - x5 % 4] : List Int), -9223372036854775808 ≤ p ∧ p < 9223372036854775808 := by
      intro p hp
      simp only [List.mem_cons, List.not_mem_nil, or_false] at hp
      rcases hp with rfl | rfl | rfl <;> omega
    have e3 := reads_l2 x1 x5 _ hy Y (Y.length : Int) (i : Int) [x1, 0, 4611686018427387904 - x5 % 4] hps (by simp) k (by omega) 3 0 (by simp)
    rw [repriselaw23_EventReads.l1, if_pos q1, if_pos q2, if_pos q1, Option.bind_some, ht, e1, e2]
    rw [ei] at e3
    exact e3.trans (ih k (i + 1) (by omega) (by omega))
theorem set_byt (l : List Int) (i : Nat) (x : Int) (hl : Byt l) (hx : 0 ≤ x ∧ x < 256) : Byt (l.set i x) := by
  refine ⟨by rw [List.length_set]; exact hl.1, fun y hy => ?_⟩
  rcases List.mem_or_eq_of_mem_set hy with h | h
  · exact hl.2 y h
  · exact h ▸ hx
theorem reads_j3 (k : Nat) (hk : 100 ≤ k) (x0 : List Int) (h0 : Byt x0) (x1 x4 x5 x6 : Int) (h1 : -9223372036854775808 ≤ x1 ∧ x1 < 9223372036854775808) (h5 : 0 ≤ x5 ∧ x5 < 256) (h6 : 0 ≤ x6 ∧ x6 < 256) (b c : List Int) (hb : Byt b) (hc : Byt c) :
    repriselaw23_EventReads.j3 k x0 x1 x4 x5 x6 b c = some true := by
  obtain ⟨k, rfl⟩ : ∃ m, k = m + 1 := ⟨k - 1, by omega⟩
  rw [repriselaw23_EventReads.j3, Option.bind_some]
  have t1 : Int.tmod x6 5 = x6 % 5 := Int.tmod_eq_emod_of_nonneg h6.1
  have t2 : Int.tmod x6 2 = x6 % 2 := Int.tmod_eq_emod_of_nonneg h6.1
  rw [t1, t2]
  refine reads_l1 x1 x5 h1 h5 _ ?_ (by simp) 6 k 0 (by simp) (by omega)
  intro y hy
  simp only [List.mem_cons, List.not_mem_nil, or_false] at hy
  rcases hy with rfl | rfl | rfl | rfl | rfl | rfl
  · exact h0
  · exact hb
  · exact hc
  · refine ⟨by simp, fun x hx => ?_⟩
    simp only [List.mem_cons, List.not_mem_nil, or_false] at hx
    rcases hx with rfl | rfl | rfl | rfl <;> omega
  · refine ⟨by simp, fun x hx => ?_⟩
    simp only [List.mem_cons, List.not_mem_nil, or_false] at hx
    rcases hx with rfl | rfl | rfl | rfl | rfl <;> omega
  · refine ⟨by simp, fun x hx => ?_⟩
    simp only [List.mem_cons, List.not_mem_nil, or_false] at hx
    rcases hx with rfl | rfl | rfl | rfl | rfl <;> omega
theorem reads_j2 (k : Nat) (hk : 101 ≤ k) (x0 : List Int) (h0 : Byt x0) (x1 x4 x5 x6 : Int) (h1 : -9223372036854775808 ≤ x1 ∧ x1 < 9223372036854775808) (h4 : 0 ≤ x4 ∧ x4 < 65536) (h5 : 0 ≤ x5 ∧ x5 < 256) (h6 : 0 ≤ x6 ∧ x6 < 256) (b : List Int) (hb : Byt b) (hl : b.length ≤ 1000) :
    repriselaw23_EventReads.j2 k x0 x1 x4 x5 x6 b = some true := by
  obtain ⟨k, rfl⟩ : ∃ m, k = m + 1 := ⟨k - 1, by omega⟩
  rw [repriselaw23_EventReads.j2, List.nil_append, if_pos (show ([] : List Int).length + b.length < 140737488355328 by rw [List.length_nil]; omega), Option.bind_some, if_pos (by omega), Option.bind_some]
  have hc : Byt (b ++ [0]) := by
    refine ⟨by rw [List.length_append]; simp only [List.length_cons, List.length_nil]; omega, fun x hx => ?_⟩
    rcases List.mem_append.1 hx with h | h
    · exact hb.2 x h
    · rw [List.mem_singleton.1 h]; omega
  have hpos : 0 < (b ++ [0] : List Int).length := by rw [List.length_append]; simp
  generalize (b ++ [0] : List Int) = c at *
  have w4 : wrap64 x4 = x4 := Zig.w64_id _ (by omega) (by omega)
  have t4 : Int.tmod x4 (c.length : Int) = x4 % (c.length : Int) := Int.tmod_eq_emod_of_nonneg h4.1
  have m1 : 0 ≤ x4 % (c.length : Int) := Int.emod_nonneg _ (by omega)
  have m2 : x4 % (c.length : Int) < (c.length : Int) := Int.emod_lt_of_pos _ (by omega)
  have hr : ∀ i : Int, 0 ≤ i → i < (c.length : Int) → 0 ≤ rd c i ∧ rd c i < 256 := by
    intro i i0 i1
    refine hc.2 _ ?_
    unfold rd
    rw [List.getD_eq_getElem?_getD, List.getElem?_eq_getElem (by omega)]
    exact List.getElem_mem _
  rw [w4, t4]
  by_cases c1 : Int.tmod x6 3 = 0
  · rw [if_pos c1, if_neg (by omega), if_pos m1, if_pos m2]
    refine reads_j3 k (by omega) x0 h0 x1 x4 x5 x6 h1 h5 h6 b _ hb (set_byt _ _ _ hc ?_)
    have hq := hr _ m1 m2
    have hx := Nat.xor_lt_two_pow (n := 8) (x := (rd c (x4 % (c.length : Int))).toNat) (y := x5.toNat) (by omega) (by omega)
    rw [u8_xor _ _ hq.1 hq.2 h5.1 h5.2]
    omega
  · rw [if_neg c1]
    by_cases c2 : Int.tmod x6 3 = 1
    · rw [if_pos c2, if_neg (by omega), if_pos m1, if_pos (by omega)]
      refine reads_j3 k (by omega) x0 h0 x1 x4 x5 x6 h1 h5 h6 b _ hb ⟨?_, fun x hx => hc.2 x (List.mem_of_mem_take hx)⟩
      have := hc.1
      rw [List.length_take]; omega
    · rw [if_neg c2, if_pos (by omega)]
      exact reads_j3 k (by omega) x0 h0 x1 x4 x5 x6 h1 h5 h6 b _ hb (set_byt _ _ _ hc h5)
theorem reads_l0 (k : Nat) (hk : 110 ≤ k) (x0 : List Int) (h0 : Byt x0) (x1 x4 x5 x6 : Int) (h1 : -9223372036854775808 ≤ x1 ∧ x1 < 9223372036854775808) (h4 : 0 ≤ x4 ∧ x4 < 65536) (h5 : 0 ≤ x5 ∧ x5 < 256) (h6 : 0 ≤ x6 ∧ x6 < 256) (xs : List S30) (ho : EvsOk 0 xs) :
    repriselaw23_EventReads.l0 k x0 x1 x4 x5 x6 xs [] 0 = some true := by
  obtain ⟨k, rfl⟩ : ∃ m, k = m + 1 + 1 := ⟨k - 2, by omega⟩
  rw [repriselaw23_EventReads.l0]
  by_cases hx : (0 : Int) < (xs.length : Int)
  · rw [if_pos hx, if_pos (by decide), if_pos (by decide)]
    cases xs with
    | nil => exact absurd hx (by decide)
    | cons e r =>
      have ee : rd_T30 (e :: r) 0 = e := rfl
      have hlen := putE_len 0 _ _ _ _ _ (by decide) (by decide) ho.1
      have hby := putE_byte 0 e.f0 e.f1 e.f2 e.f3 e.f4 ho.2.2.1
      have hd := ho.2.1
      rw [ee, rput_E _ (by omega) 0 _ _ _ _ _ (by decide) (by decide) ho.1, Option.bind_some, show wrap64 (0 + 1) = 1 from Zig.w64_id _ (by decide) (by decide), repriselaw23_EventReads.l0]
      have hj := reads_j2 k (by omega) x0 h0 x1 x4 x5 x6 h1 h4 h5 h6 _ ⟨by omega, hby⟩ (by omega)
      rw [if_neg (show ¬ (1 : Int) < 1 by decide), hj, ite_self]
  · rw [if_neg hx]
    exact reads_j2 (k + 1) (by omega) x0 h0 x1 x4 x5 x6 h1 h4 h5 h6 [] ⟨by simp, by simp⟩ (by simp)
theorem EventReads : repriselaw23_EventReads.Pure := by
  intro l0 a1 l2 l3 a4 a5 a6 _ _ hl0 ha1 _ _ hl2 _ _ hl3 ha4 ha5 ha6
  have hb0 : ∀ x ∈ l0, 0 ≤ x ∧ x < 256 := fun x hx => by have := Zig.wf_u8 (hl0 x hx); omega
  have hb2 : ∀ x ∈ l2, 0 ≤ x ∧ x < 256 := fun x hx => by have := Zig.wf_u8 (hl2 x hx); omega
  have hb3 : ∀ x ∈ l3, 0 ≤ x ∧ x < 256 := fun x hx => by have := Zig.wf_u8 (hl3 x hx); omega
  have h1 : -9223372036854775808 ≤ a1 ∧ a1 < 9223372036854775808 := by have := Zig.wf_i64 ha1; omega
  have h4 : 0 ≤ a4 ∧ a4 < 65536 := by have := Zig.wf_u16 ha4; omega
  have h5 : 0 ≤ a5 ∧ a5 < 256 := by have := Zig.wf_u8 ha5; omega
  have h6 : 0 ≤ a6 ∧ a6 < 256 := by have := Zig.wf_u8 ha6; omega
  refine ⟨400, ?_⟩
  unfold repriselaw23_EventReads.f repriselaw23_known.f
  rw [Option.bind_some, if_pos rfl]
  by_cases c1 : (l0.length : Int) > 60
  · rw [if_pos c1, repriselaw23_EventReads.j0, if_pos rfl]
  · rw [if_neg c1]
    by_cases c2 : (l2.length : Int) > 10
    · rw [if_pos c2, repriselaw23_EventReads.j0, if_pos rfl]
    · rw [if_neg c2]
      by_cases c3 : (l3.length : Int) > 10
      · rw [decide_eq_true c3, repriselaw23_EventReads.j0, if_pos rfl]
      · obtain ⟨xs, hx, hxl, ho⟩ := events_f l2 l3 (by omega) hb2 (by omega) hb3 399 (by omega)
        rw [decide_eq_false c3, repriselaw23_EventReads.j0, if_neg (by decide), hx, Option.bind_some]
        exact reads_l0 399 (by omega) l0 ⟨by omega, hb0⟩ a1 a4 a5 a6 h1 h4 h5 h6 xs ho
end Go.Proofs.Ytmaefdeigienjaa.Pure
