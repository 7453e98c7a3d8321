/- EventChain: events' bytes, one behind another, are read one by one; for every choice of the law. -/
import Derived.Test.YtmaefdeigienjaaQEventChainx9
import Derived.Test.YtmaefdeigienjaaEventEncEventChain
namespace Go.Proofs.Ytmaefdeigienjaa.Pure
open Go.RowKit Go.Proofs.Ytmaefdeigienjaa.QEventChain Go.Proofs.YtmaefdeigienjaaW.PrintWords Go.Proofs.YtmaefdeigienjaaW.PrintLast Go.Proofs.YtmaefdeigienjaaW.PrintMore
theorem chain_l0 (xs : List S30) (hx : xs.length ≤ 20) (k : Nat) (hk : 50 ≤ k) (d : Nat) : ∀ (i : Nat) (acc : List Int) (p : Int), i ≤ xs.length → xs.length - i = d → 0 ≤ p → p ≤ 4611686018427387904 → EvsOk p (xs.drop i) → acc.length ≤ 400 * i →
    repriselaw23_EventChain.l0 (d + 1 + k) xs acc p (i : Int) = repriselaw23_EventChain.l1 k xs (acc ++ encEvs p (xs.drop i)) 0 0 := by
  induction d with
  | zero =>
    intro i acc p hi hd _ _ _ _
    rw [show 0 + 1 + k = k + 1 from by omega, repriselaw23_EventChain.l0, if_neg (by omega), List.drop_of_length_le (by omega)]
    simp [encEvs]
  | succ d ih =>
    intro i acc p hi hd h0 h1 ho ha
    have q1 : (i : Int) < (xs.length : Int) := by omega
    have q2 : (0 : Int) ≤ (i : Int) := by omega
    have ei : wrap64 ((i : Int) + 1) = ((i + 1 : Nat) : Int) := by rw [Zig.w64_id _ (by omega) (by omega)]; omega
    have hi1 : i + 1 ≤ xs.length := by omega
    have hd1 : xs.length - (i + 1) = d := by omega
    have hk1 : 12 ≤ d + 1 + k := by omega
    have hi2 : i ≤ 20 := by omega
    rw [evs_drop xs i (by omega)] at ho ⊢
    have ht := evs_tick ho
    have hl := putE_len p _ _ _ _ _ h0 h1 ho.1
    have hl2 := ho.2.1
    have hp : (Ev.putE p (rd_T30 xs (i : Int)).f0 (rd_T30 xs (i : Int)).f1 (rd_T30 xs (i : Int)).f2 (rd_T30 xs (i : Int)).f3 (rd_T30 xs (i : Int)).f4).2 = 0 := by rw [Ev.putE_ok h0 h1 ho.1]
    have hih := ih (i + 1) (acc ++ (Ev.putE p (rd_T30 xs (i : Int)).f0 (rd_T30 xs (i : Int)).f1 (rd_T30 xs (i : Int)).f2 (rd_T30 xs (i : Int)).f3 (rd_T30 xs (i : Int)).f4).1) (rd_T30 xs (i : Int)).f0 hi1 hd1 ht.1 ht.2 ho.2.2.2
    clear ho ht ih h0 h1
    rw [show d + 1 + 1 + k = (d + 1 + k) + 1 from by omega, repriselaw23_EventChain.l0, if_pos q1, if_pos q2, put_E _ hk1, Option.bind_some, if_pos hp, ei]
    clear hp ei q1 q2 hk1
    simp only [encEvs]
    generalize (Ev.putE p (rd_T30 xs (i : Int)).f0 (rd_T30 xs (i : Int)).f1 (rd_T30 xs (i : Int)).f2 (rd_T30 xs (i : Int)).f3 (rd_T30 xs (i : Int)).f4).1 = q at *
    generalize (rd_T30 xs (i : Int)).f2.length = n at *
    have hql : q.length ≤ 400 := by omega
    have hs : acc.length + q.length < 140737488355328 := by omega
    rw [if_pos hs, hih (by rw [List.length_append]; omega), List.append_assoc]
theorem chain_l1 (xs : List S30) (hx : xs.length ≤ 20) (k : Nat) (hk : 50 ≤ k) (d : Nat) : ∀ (i : Nat) (p : Int), i ≤ xs.length → xs.length - i = d → 0 ≤ p → p ≤ 4611686018427387904 → EvsOk p (xs.drop i) →
    repriselaw23_EventChain.l1 (d + 1 + k) xs (encEvs p (xs.drop i)) p (i : Int) = some true := by
  induction d with
  | zero =>
    intro i p hi hd h0 h1 _
    rw [show 0 + 1 + k = k + 1 from by omega, repriselaw23_EventChain.l1, if_neg (by omega), List.drop_of_length_le (by omega)]
    simp only [encEvs]
    rw [read_E k (by omega) p [] (by simp) (by simp) ⟨by omega, by omega⟩, Option.bind_some, Ev.readE_nil]
    rfl
  | succ d ih =>
    intro i p hi hd h0 h1 ho
    have q1 : (i : Int) < (xs.length : Int) := by omega
    have q2 : (0 : Int) ≤ (i : Int) := by omega
    have ei : wrap64 ((i : Int) + 1) = ((i + 1 : Nat) : Int) := by rw [Zig.w64_id _ (by omega) (by omega)]; omega
    have hi1 : i + 1 ≤ xs.length := by omega
    have hd1 : xs.length - (i + 1) = d := by omega
    have hk1 : 40 ≤ d + 1 + k := by omega
    have hp1 : -9223372036854775808 ≤ p ∧ p < 9223372036854775808 := by omega
    have hB := encEvs_byte _ p ho
    have hL := encEvs_len _ p h0 h1 ho
    rw [List.length_drop] at hL
    have hL2 : (encEvs p (xs.drop i)).length < 140737488355328 := by omega
    rw [evs_drop xs i (by omega)] at ho hB hL2 ⊢
    have ht := evs_tick ho
    have hl := (putE_len p _ _ _ _ _ h0 h1 ho.1).1
    have hr := read_E (d + 1 + k) hk1 p _ hL2 hB hp1
    have hih := ih (i + 1) _ hi1 hd1 ht.1 ht.2 ho.2.2.2
    simp only [encEvs] at hr hL2 ⊢
    rw [Ev.readE_put _ h0 h1 ho.1] at hr
    clear hB hL ho ht ih h0 h1 hp1
    rw [show d + 1 + 1 + k = (d + 1 + k) + 1 from by omega, repriselaw23_EventChain.l1, if_pos q1, hr, Option.bind_some]
    clear hr
    simp only [if_true]
    generalize hq : (Ev.putE p (rd_T30 xs (i : Int)).f0 (rd_T30 xs (i : Int)).f1 (rd_T30 xs (i : Int)).f2 (rd_T30 xs (i : Int)).f3 (rd_T30 xs (i : Int)).f4).1 = q at *
    clear hq
    generalize hz : encEvs (rd_T30 xs (i : Int)).f0 (xs.drop (i + 1)) = z at *
    have hlen : ((q ++ z).length : Int) = q.length + z.length := by rw [List.length_append]; omega
    rw [if_neg (show ¬ ((q.length : Int) > ((q ++ z).length : Int)) by omega), if_neg (show ¬ ((q.length : Int) < 1) by omega), if_pos q2, same_self, Option.bind_some, if_pos rfl, if_pos (show 0 ≤ (q.length : Int) by omega), if_pos (show (q.length : Int) ≤ ((q ++ z).length : Int) by omega), ei, Int.toNat_natCast, List.drop_left]
    exact hih
theorem EventChain : repriselaw23_EventChain.Pure := by
  intro l m _ _ hl _ _ hm
  have hlb : ∀ x ∈ l, 0 ≤ x ∧ x < 256 := fun x hx => by have := Zig.wf_u8 (hl x hx); omega
  have hmb : ∀ x ∈ m, 0 ≤ x ∧ x < 256 := fun x hx => by have := Zig.wf_u8 (hm x hx); omega
  refine ⟨400, ?_⟩
  unfold repriselaw23_EventChain.f repriselaw23_known.f
  rw [Option.bind_some, if_pos rfl]
  by_cases h1 : (l.length : Int) > 20
  · rw [if_pos h1, repriselaw23_EventChain.j0, if_pos rfl]
  · rw [if_neg h1]
    by_cases h2 : (m.length : Int) > 10
    · rw [decide_eq_true h2, repriselaw23_EventChain.j0, if_pos rfl]
    · obtain ⟨xs, hx, hxl, ho⟩ := events_f l m (by omega) hlb (by omega) hmb 399 (by omega)
      rw [decide_eq_false h2, repriselaw23_EventChain.j0, if_neg (by decide), hx, Option.bind_some]
      have e0 := chain_l0 xs (by omega) (399 - xs.length - 1) (by omega) xs.length 0 [] 0 (by omega) (by omega) (by decide) (by decide) ho (by simp)
      rw [show xs.length + 1 + (399 - xs.length - 1) = 399 from by omega] at e0
      have e1 := chain_l1 xs (by omega) (399 - xs.length - 1 - xs.length - 1) (by omega) xs.length 0 0 (by omega) (by omega) (by decide) (by decide) ho
      rw [show xs.length + 1 + (399 - xs.length - 1 - xs.length - 1) = 399 - xs.length - 1 from by omega] at e1
      rw [show ((0 : Int)) = ((0 : Nat) : Int) from rfl] at *
      rw [e0]
      rw [List.drop_zero] at e1
      rw [List.nil_append, List.drop_zero]
      exact e1
end Go.Proofs.Ytmaefdeigienjaa.Pure
