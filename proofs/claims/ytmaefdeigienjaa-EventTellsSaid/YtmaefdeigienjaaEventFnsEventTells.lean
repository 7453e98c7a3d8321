/- The printed functions of package event come to the plain ones; for every event. -/
import Derived.Test.YtmaefdeigienjaaLebFns2EventTells
import Derived.Test.YtmaefdeigienjaaEventMath
namespace Go.Proofs.Ytmaefdeigienjaa.QEventTells
open Go.RowKit Go.Proofs.YtmaefdeigienjaaW.PrintWords Go.Proofs.YtmaefdeigienjaaW.PrintLast Go.Proofs.YtmaefdeigienjaaW.PrintMore
theorem size_f (n : Int) : event_check_1.f n = some (decide (1 ≤ n ∧ n ≤ 1000)) := by
  unfold event_check_1.f
  by_cases h : n ≥ 1
  · rw [if_pos h]; congr 1; simp; omega
  · rw [if_neg h]; congr 1; simp; omega
theorem check_j2 (k : Nat) (prev : Int) (b : Bool) (tick kind : Int) (data : List Int) (rows cols : Int) :
    event_check.j2 (k + 1) prev b tick kind data rows cols = some (if b = true then 26 else if tick < 0 ∨ tick > 4611686018427387904 ∨ tick < prev then 24 else 0) := by
  rw [event_check.j2]
  cases b with
  | true => rfl
  | false =>
    simp only [Bool.false_eq_true, if_false]
    by_cases h1 : tick < 0
    · rw [if_pos h1, if_pos (.inl h1)]
    · rw [if_neg h1]
      by_cases h2 : tick > 4611686018427387904
      · rw [if_pos h2, if_pos (.inr (.inl h2))]
      · rw [if_neg h2]
        by_cases h3 : tick < prev
        · rw [if_pos h3, if_pos (.inr (.inr h3))]
        · rw [if_neg h3, if_neg (by omega)]
theorem check_j1 (k : Nat) (prev : Int) (b : Bool) (tick kind : Int) (data : List Int) (rows cols : Int) :
    event_check.j1 (k + 2) prev b tick kind data rows cols = some (if b = true then 27 else if (data.length : Int) > 1048576 then 25
      else if kind = 2 ∧ (¬ (1 ≤ rows ∧ rows ≤ 1000) ∨ ¬ (1 ≤ cols ∧ cols ≤ 1000)) then 26
      else if tick < 0 ∨ tick > 4611686018427387904 ∨ tick < prev then 24 else 0) := by
  rw [event_check.j1]
  cases b with
  | true => rfl
  | false =>
    simp only [Bool.false_eq_true, if_false]
    by_cases h1 : (data.length : Int) > 1048576
    · rw [if_pos h1, if_pos h1]
    · rw [if_neg h1, if_neg h1]
      by_cases h2 : kind = 2
      · rw [if_pos h2, size_f, Option.bind_some]
        by_cases h3 : 1 ≤ rows ∧ rows ≤ 1000
        · rw [if_pos (decide_eq_true h3), size_f, Option.bind_some, check_j2]
          by_cases h4 : 1 ≤ cols ∧ cols ≤ 1000
          · have q : ¬ (kind = 2 ∧ (¬ (1 ≤ rows ∧ rows ≤ 1000) ∨ ¬ (1 ≤ cols ∧ cols ≤ 1000))) := by omega
            rw [if_neg q, decide_eq_true h4]; rfl
          · have q : kind = 2 ∧ (¬ (1 ≤ rows ∧ rows ≤ 1000) ∨ ¬ (1 ≤ cols ∧ cols ≤ 1000)) := ⟨h2, .inr h4⟩
            rw [if_pos q, decide_eq_false h4]; rfl
        · have q : kind = 2 ∧ (¬ (1 ≤ rows ∧ rows ≤ 1000) ∨ ¬ (1 ≤ cols ∧ cols ≤ 1000)) := ⟨h2, .inl h3⟩
          rw [decide_eq_false h3, if_neg (show ¬ (false = true) by decide), check_j2, if_pos rfl, if_pos q]
      · have q : ¬ (kind = 2 ∧ (¬ (1 ≤ rows ∧ rows ≤ 1000) ∨ ¬ (1 ≤ cols ∧ cols ≤ 1000))) := fun h => h2 h.1
        rw [if_neg h2, check_j2, if_neg q]; rfl
theorem check_j0 (k : Nat) (prev : Int) (b : Bool) (tick kind : Int) (data : List Int) (rows cols : Int) :
    event_check.j0 (k + 3) prev b tick kind data rows cols = some (if b = true ∨ (kind ≠ 2 ∧ (rows ≠ 0 ∨ cols ≠ 0)) ∨ (kind = 2 ∧ (data.length : Int) > 0) then 27 else if (data.length : Int) > 1048576 then 25
      else if kind = 2 ∧ (¬ (1 ≤ rows ∧ rows ≤ 1000) ∨ ¬ (1 ≤ cols ∧ cols ≤ 1000)) then 26
      else if tick < 0 ∨ tick > 4611686018427387904 ∨ tick < prev then 24 else 0) := by
  rw [event_check.j0]
  cases b with
  | true => rw [if_pos rfl, check_j1, if_pos rfl, if_pos (.inl rfl)]
  | false =>
    rw [if_neg (show ¬ (false = true) by decide)]
    have go : ∀ (b : Bool) (P : Prop) [Decidable P], (b = true ↔ P) → event_check.j1 (k + 2) prev b tick kind data rows cols = some (if P then 27 else if (data.length : Int) > 1048576 then 25
      else if kind = 2 ∧ (¬ (1 ≤ rows ∧ rows ≤ 1000) ∨ ¬ (1 ≤ cols ∧ cols ≤ 1000)) then 26
      else if tick < 0 ∨ tick > 4611686018427387904 ∨ tick < prev then 24 else 0) := by
      intro b P _ hb
      rw [check_j1]
      by_cases h : b = true
      · rw [if_pos h, if_pos (hb.1 h)]
      · rw [if_neg h, if_neg (fun q => h (hb.2 q))]
    by_cases h1 : kind = 2
    · rw [if_pos h1]
      apply go
      rw [decide_eq_true_iff]
      constructor
      · intro h; exact .inr (.inr ⟨h1, h⟩)
      · rintro (h | h | h)
        · cases h
        · exact absurd h1 h.1
        · exact h.2
    · rw [if_neg h1]
      by_cases h2 : rows = 0
      · rw [if_pos h2]
        by_cases h3 : cols = 0
        · rw [if_pos h3]
          apply go
          constructor
          · intro h; cases h
          · rintro (h | h | h)
            · cases h
            · exact h.2.elim (absurd h2) (absurd h3)
            · exact absurd h.1 h1
        · rw [if_neg h3]
          apply go
          constructor
          · intro _; exact .inr (.inl ⟨h1, .inr h3⟩)
          · intro _; simpa using h3
      · rw [if_neg h2]
        apply go
        constructor
        · intro _; exact .inr (.inl ⟨h1, .inl h2⟩)
        · intro _; rfl
theorem check_f (k : Nat) (hk : 3 ≤ k) (prev tick kind : Int) (data : List Int) (rows cols : Int) :
    event_check.f k prev tick kind data rows cols = some (Ev.chk prev tick kind data rows cols) := by
  obtain ⟨k, rfl⟩ : ∃ m, k = m + 3 := ⟨k - 3, by omega⟩
  unfold event_check.f Ev.chk
  have key : ∀ b : Bool, (b = true ↔ (kind ≠ 0 ∧ kind ≠ 1 ∧ kind ≠ 2)) → event_check.j0 (k + 3) prev b tick kind data rows cols = some (if (kind ≠ 0 ∧ kind ≠ 1 ∧ kind ≠ 2) ∨ (kind ≠ 2 ∧ (rows ≠ 0 ∨ cols ≠ 0)) ∨ (kind = 2 ∧ (data.length : Int) > 0) then 27
      else if (data.length : Int) > 1048576 then 25 else if kind = 2 ∧ (¬ (1 ≤ rows ∧ rows ≤ 1000) ∨ ¬ (1 ≤ cols ∧ cols ≤ 1000)) then 26 else if tick < 0 ∨ tick > 4611686018427387904 ∨ tick < prev then 24 else 0) := by
    intro b hb
    rw [check_j0]
    congr 1
    by_cases h : b = true ∨ (kind ≠ 2 ∧ (rows ≠ 0 ∨ cols ≠ 0)) ∨ (kind = 2 ∧ (data.length : Int) > 0)
    · rw [if_pos h, if_pos (h.imp hb.1 id)]
    · have q : ¬ ((kind ≠ 0 ∧ kind ≠ 1 ∧ kind ≠ 2) ∨ (kind ≠ 2 ∧ (rows ≠ 0 ∨ cols ≠ 0)) ∨ (kind = 2 ∧ (data.length : Int) > 0)) := fun g => h (g.imp hb.2 id)
      rw [if_neg h, if_neg q]
  by_cases h0 : kind = 0
  · rw [if_pos h0]; exact key false (by simp [h0])
  · rw [if_neg h0]
    by_cases h1 : kind = 1
    · rw [if_pos h1]; exact key false (by simp [h1])
    · rw [if_neg h1]; exact key (kind != 2) (by simp [h0, h1])
theorem put_j0 (k : Nat) (hk : 12 ≤ k) (prev : Int) (b : Bool) (tick kind : Int) (data : List Int) (rows cols : Int) (hp : b = false → 0 ≤ prev) (h : Ev.chk prev tick kind data rows cols = 0) :
    event_Put.j0 k prev b tick kind data rows cols = some (if b = true then ([], 24) else (Leb.enc (tick - prev).toNat ++ Leb.enc kind.toNat ++ (if kind = 2 then Leb.enc rows.toNat ++ Leb.enc cols.toNat else Leb.encBytes data), 0)) := by
  obtain ⟨k, rfl⟩ : ∃ m, k = m + 1 := ⟨k - 1, by omega⟩
  obtain ⟨t0, t1, t2, hkind, hd, hn2, h2⟩ := Ev.chk_ok h
  rw [event_Put.j0]
  cases b with
  | true => rfl
  | false =>
    have p0 := hp rfl
    simp only [Bool.false_eq_true, if_false]
    rw [Zig.w64_id (tick - prev) (by omega) (by omega), Zig.u64w, Zig.u64w, show (tick - prev) % 18446744073709551616 = tick - prev from by omega, show kind % 18446744073709551616 = kind from by omega]
    have l1 := Leb.enc_len10 (tick - prev).toNat (by omega)
    have l2 := Leb.enc_len10 kind.toNat (by omega)
    have l3 := Leb.enc_len10 data.length (by omega)
    rw [put_f k (tick - prev) (by omega) (by omega) (by omega), Option.bind_some, put_f k kind (by omega) (by omega) (by omega), Option.bind_some, if_pos (by omega), Option.bind_some]
    by_cases hk2 : kind = 2
    · obtain ⟨_, r1, r2, r3, r4⟩ := h2 hk2
      have l4 := Leb.enc_len10 rows.toNat (by omega)
      have l5 := Leb.enc_len10 cols.toNat (by omega)
      rw [if_pos hk2, if_pos hk2, Zig.u64w, Zig.u64w, show rows % 18446744073709551616 = rows from by omega, show cols % 18446744073709551616 = cols from by omega,
        put_f k rows (by omega) (by omega) (by omega), Option.bind_some, if_pos (by rw [List.length_append]; omega), Option.bind_some, put_f k cols (by omega) (by omega) (by omega), Option.bind_some,
        if_pos (by simp only [List.length_append]; omega)]
      simp only [List.append_assoc]
    · rw [if_neg hk2, if_neg hk2, putBytes_f k data (by omega) (by omega), Option.bind_some, if_pos (by unfold Leb.encBytes; simp only [List.length_append]; omega)]
theorem put_E (k : Nat) (hk : 12 ≤ k) (prev tick kind : Int) (data : List Int) (rows cols : Int) :
    event_Put.f k prev tick kind data rows cols = some (Ev.putE prev tick kind data rows cols) := by
  unfold event_Put.f Ev.putE
  rw [check_f k (by omega), Option.bind_some]
  by_cases h : Ev.chk prev tick kind data rows cols = 0
  · rw [if_pos h, if_pos h]
    by_cases h1 : prev < 0
    · rw [if_pos h1, if_pos (.inl h1), put_j0 k hk _ _ _ _ _ _ _ (by simp) h, if_pos rfl]
    · rw [if_neg h1, put_j0 k hk _ _ _ _ _ _ _ (fun _ => by omega) h]
      by_cases h2 : prev > 4611686018427387904
      · rw [if_pos (by simpa using h2), if_pos (.inr h2)]
      · rw [if_neg (by simpa using h2), if_neg (show ¬ (prev < 0 ∨ prev > 4611686018427387904) by omega)]
  · rw [if_neg h, if_neg h]
end Go.Proofs.Ytmaefdeigienjaa.QEventTells
