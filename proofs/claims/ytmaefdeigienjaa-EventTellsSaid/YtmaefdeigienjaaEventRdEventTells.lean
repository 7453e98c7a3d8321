/- The printed Read of package event comes to the plain one; for every bytes. -/
import Derived.Test.YtmaefdeigienjaaEventFnsEventTells
import Derived.Test.YtmaefdeigienjaaEventDec
namespace Go.Proofs.Ytmaefdeigienjaa.QEventTells
open Go.RowKit Go.Proofs.YtmaefdeigienjaaW.PrintWords Go.Proofs.YtmaefdeigienjaaW.PrintLast Go.Proofs.YtmaefdeigienjaaW.PrintMore
theorem numbers_f (k : Nat) (hk : 20 ≤ k) (l : List Int) (_hl : l.length < 140737488355328) (hb : ∀ x ∈ l, 0 ≤ x ∧ x < 256) : event_numbers.f k l = some (Ev.nums2 l) := by
  unfold event_numbers.f Ev.nums2
  rw [read_f k l hb hk, Option.bind_some]
  rcases Leb.dec_ok l hb with ⟨d1, d2, d3, d4, d5, d6⟩ | ⟨d1, d2, d3⟩
  · have hb2 : ∀ x ∈ l.drop (Leb.dec l).2.1.toNat, 0 ≤ x ∧ x < 256 := fun x hx => hb x (List.mem_of_mem_drop hx)
    rw [if_pos d1, if_pos d1, if_pos (by omega), if_pos d5, read_f k _ hb2 hk, Option.bind_some]
    rcases Leb.dec_ok _ hb2 with ⟨e1, e2, e3, e4, e5, e6⟩ | ⟨e1, e2, e3⟩
    · rw [if_pos e1, if_pos e1]
      rw [List.length_drop] at e5
      rw [Zig.w64_id ((Leb.dec l).2.1 + (Leb.dec (l.drop (Leb.dec l).2.1.toNat)).2.1) (by omega) (by omega)]
    · rw [if_neg (by omega), if_neg (by omega)]
  · rw [if_neg (by omega), if_neg (by omega)]
theorem mn_eq (a b : Int) : mn a b = min a b := by unfold mn; split <;> omega
theorem putE_err (prev tick kind : Int) (data : List Int) (rows cols : Int) (h0 : 0 ≤ prev) (h1 : prev ≤ 4611686018427387904) : ((Ev.putE prev tick kind data rows cols).2 = 0) = (Ev.chk prev tick kind data rows cols = 0) := by
  apply propext
  constructor
  · intro h
    unfold Ev.putE at h
    split at h
    · assumption
    · exact h
  · intro h
    rw [Ev.putE_ok h0 h1 h]
theorem read_j0 (k : Nat) (hk : 40 ≤ k) (prev gap at_ err size x kind : Int) (data : List Int) (rows cols : Int) (hp : -9223372036854775808 ≤ prev ∧ prev < 9223372036854775808) (hg : 0 ≤ gap)
    (ha : 0 ≤ at_ ∧ at_ ≤ 140737488355328) (hs : 0 ≤ size ∧ size ≤ 140737488355328) :
    event_Read.j0 k prev gap at_ err size x kind data rows cols = some (Ev.fin prev gap at_ size err kind data rows cols) := by
  obtain ⟨k, rfl⟩ : ∃ m, k = m + 2 := ⟨k - 2, by omega⟩
  rw [event_Read.j0]
  unfold Ev.fin
  by_cases he : err = 0
  · rw [if_pos he, if_pos he]
    by_cases h1 : prev < 0
    · rw [if_pos h1, event_Read.j1, if_pos rfl, if_pos (.inl h1)]
    · rw [if_neg h1]
      by_cases h2 : prev > 4611686018427387904
      · rw [if_pos h2, event_Read.j1, if_pos rfl, if_pos (.inr (.inl h2))]
      · have e1 : IntKind.u64.wrap (wrap64 (4611686018427387904 - prev)) = 4611686018427387904 - prev := by rw [Zig.w64_id _ (by omega) (by omega), Zig.u64w]; omega
        rw [if_neg h2, e1, event_Read.j1]
        by_cases h3 : gap > 4611686018427387904 - prev
        · rw [if_pos (by simpa using h3), if_pos (.inr (.inr h3))]
        · have e2 : wrap64 (prev + wrap64 gap) = prev + gap := by rw [Zig.w64_id gap (by omega) (by omega), Zig.w64_id _ (by omega) (by omega)]
          rw [if_neg (by simpa using h3), if_neg (show ¬ (prev < 0 ∨ prev > 4611686018427387904 ∨ gap > 4611686018427387904 - prev) by omega), e2, put_E k (by omega), Option.bind_some]
          by_cases h4 : Ev.chk prev (prev + gap) kind data rows cols = 0
          · rw [if_pos (by rw [putE_err _ _ _ _ _ _ (by omega) (by omega)]; exact h4), if_pos h4, Zig.w64_id (at_ + size) (by omega) (by omega)]
          · rw [if_neg (by rw [putE_err _ _ _ _ _ _ (by omega) (by omega)]; exact h4), if_neg h4]
  · rw [if_neg he, if_neg he]
theorem decBytes_size (l : List Int) (most : Int) (hb : ∀ x ∈ l, 0 ≤ x ∧ x < 256) : 0 ≤ (Leb.decBytes l most).2.1 ∧ (Leb.decBytes l most).2.1 ≤ l.length := by
  unfold Leb.decBytes
  rcases Leb.dec_ok l hb with ⟨d1, d2, d3, d4, d5, d6⟩ | ⟨d1, d2, d3⟩
  · rw [if_pos d1]
    split
    · exact ⟨by simp, by simp⟩
    · split
      · exact ⟨by simp, by simp⟩
      · exact ⟨by simp only; omega, by simp only; omega⟩
  · rw [if_neg (by omega)]
    exact ⟨by simp, by simp⟩
theorem read_E (k : Nat) (hk : 40 ≤ k) (prev : Int) (l : List Int) (hl : l.length < 140737488355328) (hb : ∀ x ∈ l, 0 ≤ x ∧ x < 256) (hp : -9223372036854775808 ≤ prev ∧ prev < 9223372036854775808) :
    event_Read.f k prev l = some (Ev.readE prev l) := by
  unfold event_Read.f Ev.readE
  rw [numbers_f k (by omega) l hl hb, Option.bind_some]
  rcases Ev.nums2_ok l hb with ⟨n1, n2, n3, n4, n5, n6, n7⟩ | ⟨_, _, _, n4⟩
  · rw [if_pos n1, if_pos n1]
    by_cases h1 : (Ev.nums2 l).2.1 > 2
    · rw [if_pos h1, if_pos h1]
    · have hb2 : ∀ x ∈ l.drop (Ev.nums2 l).2.2.1.toNat, 0 ≤ x ∧ x < 256 := fun x hx => hb x (List.mem_of_mem_drop hx)
      have hl2 : (l.drop (Ev.nums2 l).2.2.1.toNat).length < 140737488355328 := by rw [List.length_drop]; omega
      rw [if_neg h1, if_neg h1, Zig.w64_id (Ev.nums2 l).2.1 (by omega) (by omega)]
      by_cases h2 : (Ev.nums2 l).2.1 = 2
      · rw [if_pos h2, if_pos h2, if_pos (by omega), if_pos n7, numbers_f k (by omega) _ hl2 hb2, Option.bind_some, mn_eq, mn_eq, h2]
        have hq : 0 ≤ (Ev.nums2 (l.drop (Ev.nums2 l).2.2.1.toNat)).1 ∧ 0 ≤ (Ev.nums2 (l.drop (Ev.nums2 l).2.2.1.toNat)).2.1 ∧ 0 ≤ (Ev.nums2 (l.drop (Ev.nums2 l).2.2.1.toNat)).2.2.1 ∧ (Ev.nums2 (l.drop (Ev.nums2 l).2.2.1.toNat)).2.2.1 ≤ 140737488355328 := by
          rcases Ev.nums2_ok _ hb2 with ⟨_, q2, _, q4, _, q6, q7⟩ | ⟨q1, q2, q3, _⟩
          · exact ⟨q2, q4, by omega, by omega⟩
          · rw [q1, q2, q3]; decide
        rw [Zig.w64_id (min (Ev.nums2 (l.drop (Ev.nums2 l).2.2.1.toNat)).1 1001) (by omega) (by omega), Zig.w64_id (min (Ev.nums2 (l.drop (Ev.nums2 l).2.2.1.toNat)).2.1 1001) (by omega) (by omega)]
        exact read_j0 k hk _ _ _ _ _ _ _ _ _ _ hp n2 ⟨by omega, by omega⟩ ⟨hq.2.2.1, hq.2.2.2⟩
      · have hd := decBytes_size _ 1048576 hb2
        rw [if_neg h2, if_neg h2, if_pos (by omega), if_pos n7, readBytes_f k _ 1048576 hl2 hb2 (by decide) (by decide) (by omega), Option.bind_some]
        exact read_j0 k hk _ _ _ _ _ _ _ _ _ _ hp n2 ⟨by omega, by omega⟩ ⟨hd.1, by omega⟩
  · rw [if_neg (by omega), if_neg (by omega)]
end Go.Proofs.Ytmaefdeigienjaa.QEventTells
