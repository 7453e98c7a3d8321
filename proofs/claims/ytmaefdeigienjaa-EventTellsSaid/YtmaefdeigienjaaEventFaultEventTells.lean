/- The document's Fault and Put of events come to the plain ones; for every event, every tick ahead of it. -/
import Derived.Test.YtmaefdeigienjaaEventRdEventTells
import Derived.Test.YtmaefdeigienjaaLebRefPutEventTells
namespace Go.Proofs.Ytmaefdeigienjaa.QEventTells
open Go.RowKit Go.Proofs.YtmaefdeigienjaaW.PrintWords Go.Proofs.YtmaefdeigienjaaW.PrintLast Go.Proofs.YtmaefdeigienjaaW.PrintMore
theorem rfault_j1 (k : Nat) (p : Int) (h0 : 0 ≤ p) (h1 : p ≤ 4611686018427387904) (b : Bool) (tick kind : Int) (data : List Int) (rows cols : Int) :
    repriseref23_Fault.j1 (k + 1) p b tick kind data rows cols = some (if b = true then 26 else if tick < 0 ∨ tick > 4611686018427387904 ∨ tick < p then 24 else 0) := by
  rw [repriseref23_Fault.j1]
  cases b with
  | true => rfl
  | false =>
    simp only [Bool.false_eq_true, if_false]
    rw [if_neg (show ¬ p < 0 by omega), if_neg (show ¬ p > 4611686018427387904 by omega)]
    by_cases t1 : tick < p
    · rw [if_pos t1, if_pos (.inr (.inr t1))]
    · rw [if_neg t1]
      by_cases t2 : tick > 4611686018427387904
      · rw [if_pos t2, if_pos (.inr (.inl t2))]
      · rw [if_neg t2, if_neg (show ¬ (tick < 0 ∨ tick > 4611686018427387904 ∨ tick < p) by omega)]
theorem rfault_j0 (k : Nat) (p : Int) (h0 : 0 ≤ p) (h1 : p ≤ 4611686018427387904) (b : Bool) (tick kind : Int) (data : List Int) (rows cols : Int) :
    repriseref23_Fault.j0 (k + 2) p b tick kind data rows cols = some (if b = true then 27 else if (data.length : Int) > 1048576 then 25 else if kind = 2 ∧ (¬ (1 ≤ rows ∧ rows ≤ 1000) ∨ ¬ (1 ≤ cols ∧ cols ≤ 1000)) then 26 else if tick < 0 ∨ tick > 4611686018427387904 ∨ tick < p then 24 else 0) := by
  rw [repriseref23_Fault.j0]
  cases b with
  | true => rfl
  | false =>
    simp only [Bool.false_eq_true, if_false]
    by_cases hd : (data.length : Int) > 1048576
    · rw [if_pos hd, if_pos hd]
    · rw [if_neg hd, if_neg hd]
      by_cases hk : kind = 2
      · rw [if_pos hk]
        by_cases r1 : rows < 1
        · rw [if_pos r1, rfault_j1 k p h0 h1, if_pos rfl, if_pos ⟨hk, .inl (by omega)⟩]
        · rw [if_neg r1]
          by_cases r2 : rows > 1000
          · rw [if_pos r2, rfault_j1 k p h0 h1, if_pos rfl, if_pos ⟨hk, .inl (by omega)⟩]
          · rw [if_neg r2]
            by_cases c1 : cols < 1
            · rw [if_pos c1, rfault_j1 k p h0 h1, if_pos rfl, if_pos ⟨hk, .inr (by omega)⟩]
            · rw [if_neg c1, rfault_j1 k p h0 h1]
              by_cases c2 : cols > 1000
              · rw [if_pos (decide_eq_true c2), if_pos ⟨hk, .inr (by omega)⟩]
              · rw [if_neg (by rw [decide_eq_true_eq]; exact c2), if_neg (show ¬ (kind = 2 ∧ (¬ (1 ≤ rows ∧ rows ≤ 1000) ∨ ¬ (1 ≤ cols ∧ cols ≤ 1000))) by omega)]
      · rw [if_neg hk, rfault_j1 k p h0 h1, if_neg (show ¬ (kind = 2 ∧ (¬ (1 ≤ rows ∧ rows ≤ 1000) ∨ ¬ (1 ≤ cols ∧ cols ≤ 1000))) from fun h => hk h.1)]
        simp only [Bool.false_eq_true, if_false]
theorem rfault_f (k : Nat) (hk : 2 ≤ k) (p : Int) (h0 : 0 ≤ p) (h1 : p ≤ 4611686018427387904) (tick kind : Int) (data : List Int) (rows cols : Int) :
    repriseref23_Fault.f k p tick kind data rows cols = some (Ev.chk p tick kind data rows cols) := by
  obtain ⟨k, rfl⟩ : ∃ m, k = m + 2 := ⟨k - 2, by omega⟩
  unfold repriseref23_Fault.f Ev.chk
  by_cases a1 : kind < 0
  · rw [if_pos a1, rfault_j0 k p h0 h1, if_pos rfl, if_pos (.inl (by omega))]
  · rw [if_neg a1]
    by_cases a2 : kind > 2
    · rw [if_pos a2, rfault_j0 k p h0 h1, if_pos rfl, if_pos (.inl (by omega))]
    · rw [if_neg a2]
      by_cases a3 : kind = 2
      · rw [if_pos a3, rfault_j0 k p h0 h1]
        by_cases hd : (data.length : Int) > 0
        · rw [if_pos (decide_eq_true hd), if_pos (.inr (.inr ⟨a3, hd⟩))]
        · rw [if_neg (by rw [decide_eq_true_eq]; exact hd), if_neg (show ¬ ((kind ≠ 0 ∧ kind ≠ 1 ∧ kind ≠ 2) ∨ (kind ≠ 2 ∧ (rows ≠ 0 ∨ cols ≠ 0)) ∨ (kind = 2 ∧ (data.length : Int) > 0)) by omega)]
      · rw [if_neg a3]
        by_cases r : rows = 0
        · rw [if_pos r]
          by_cases c : cols = 0
          · rw [if_pos c, rfault_j0 k p h0 h1, if_neg (by decide), if_neg (show ¬ ((kind ≠ 0 ∧ kind ≠ 1 ∧ kind ≠ 2) ∨ (kind ≠ 2 ∧ (rows ≠ 0 ∨ cols ≠ 0)) ∨ (kind = 2 ∧ (data.length : Int) > 0)) by omega)]
          · rw [if_neg c, rfault_j0 k p h0 h1, if_pos rfl, if_pos (.inr (.inl ⟨a3, .inr c⟩))]
        · rw [if_neg r, rfault_j0 k p h0 h1, if_pos rfl, if_pos (.inr (.inl ⟨a3, .inl r⟩))]
theorem bfault_j1 (k : Nat) (p : Int) (hp : p < 0 ∨ p > 4611686018427387904) (b : Bool) (tick kind : Int) (data : List Int) (rows cols : Int) :
    repriseref23_Fault.j1 (k + 1) p b tick kind data rows cols = some (if b = true then 26 else 24) := by
  rw [repriseref23_Fault.j1]
  cases b with
  | true => rfl
  | false =>
    simp only [Bool.false_eq_true, if_false]
    by_cases h : p < 0
    · rw [if_pos h]
    · rw [if_neg h, if_pos (by omega)]
theorem bfault_j0 (k : Nat) (p : Int) (hp : p < 0 ∨ p > 4611686018427387904) (b : Bool) (tick kind : Int) (data : List Int) (rows cols : Int) :
    repriseref23_Fault.j0 (k + 2) p b tick kind data rows cols = some (if b = true then 27 else if (data.length : Int) > 1048576 then 25 else if kind = 2 ∧ (¬ (1 ≤ rows ∧ rows ≤ 1000) ∨ ¬ (1 ≤ cols ∧ cols ≤ 1000)) then 26 else 24) := by
  rw [repriseref23_Fault.j0]
  cases b with
  | true => rfl
  | false =>
    simp only [Bool.false_eq_true, if_false]
    by_cases hd : (data.length : Int) > 1048576
    · rw [if_pos hd, if_pos hd]
    · rw [if_neg hd, if_neg hd]
      by_cases hk : kind = 2
      · rw [if_pos hk]
        by_cases r1 : rows < 1
        · rw [if_pos r1, bfault_j1 k p hp, if_pos rfl, if_pos ⟨hk, .inl (by omega)⟩]
        · rw [if_neg r1]
          by_cases r2 : rows > 1000
          · rw [if_pos r2, bfault_j1 k p hp, if_pos rfl, if_pos ⟨hk, .inl (by omega)⟩]
          · rw [if_neg r2]
            by_cases c1 : cols < 1
            · rw [if_pos c1, bfault_j1 k p hp, if_pos rfl, if_pos ⟨hk, .inr (by omega)⟩]
            · rw [if_neg c1, bfault_j1 k p hp]
              by_cases c2 : cols > 1000
              · rw [if_pos (decide_eq_true c2), if_pos ⟨hk, .inr (by omega)⟩]
              · rw [if_neg (by rw [decide_eq_true_eq]; exact c2), if_neg (show ¬ (kind = 2 ∧ (¬ (1 ≤ rows ∧ rows ≤ 1000) ∨ ¬ (1 ≤ cols ∧ cols ≤ 1000))) by omega)]
      · rw [if_neg hk, bfault_j1 k p hp, if_neg (show ¬ (kind = 2 ∧ (¬ (1 ≤ rows ∧ rows ≤ 1000) ∨ ¬ (1 ≤ cols ∧ cols ≤ 1000))) from fun h => hk h.1)]
        simp only [Bool.false_eq_true, if_false]
/-- an event's error, behind a tick that may not be -/
def chkB (kind : Int) (data : List Int) (rows cols : Int) : Int :=
  if (kind ≠ 0 ∧ kind ≠ 1 ∧ kind ≠ 2) ∨ (kind ≠ 2 ∧ (rows ≠ 0 ∨ cols ≠ 0)) ∨ (kind = 2 ∧ (data.length : Int) > 0) then 27
  else if (data.length : Int) > 1048576 then 25
  else if kind = 2 ∧ (¬ (1 ≤ rows ∧ rows ≤ 1000) ∨ ¬ (1 ≤ cols ∧ cols ≤ 1000)) then 26
  else 24
theorem bfault_f (k : Nat) (hk : 2 ≤ k) (p : Int) (hp : p < 0 ∨ p > 4611686018427387904) (tick kind : Int) (data : List Int) (rows cols : Int) :
    repriseref23_Fault.f k p tick kind data rows cols = some (chkB kind data rows cols) := by
  obtain ⟨k, rfl⟩ : ∃ m, k = m + 2 := ⟨k - 2, by omega⟩
  unfold repriseref23_Fault.f chkB
  by_cases a1 : kind < 0
  · rw [if_pos a1, bfault_j0 k p hp, if_pos rfl, if_pos (.inl (by omega))]
  · rw [if_neg a1]
    by_cases a2 : kind > 2
    · rw [if_pos a2, bfault_j0 k p hp, if_pos rfl, if_pos (.inl (by omega))]
    · rw [if_neg a2]
      by_cases a3 : kind = 2
      · rw [if_pos a3, bfault_j0 k p hp]
        by_cases hd : (data.length : Int) > 0
        · rw [if_pos (decide_eq_true hd), if_pos (.inr (.inr ⟨a3, hd⟩))]
        · rw [if_neg (by rw [decide_eq_true_eq]; exact hd), if_neg (show ¬ ((kind ≠ 0 ∧ kind ≠ 1 ∧ kind ≠ 2) ∨ (kind ≠ 2 ∧ (rows ≠ 0 ∨ cols ≠ 0)) ∨ (kind = 2 ∧ (data.length : Int) > 0)) by omega)]
      · rw [if_neg a3]
        by_cases r : rows = 0
        · rw [if_pos r]
          by_cases c : cols = 0
          · rw [if_pos c, bfault_j0 k p hp, if_neg (by decide), if_neg (show ¬ ((kind ≠ 0 ∧ kind ≠ 1 ∧ kind ≠ 2) ∨ (kind ≠ 2 ∧ (rows ≠ 0 ∨ cols ≠ 0)) ∨ (kind = 2 ∧ (data.length : Int) > 0)) by omega)]
          · rw [if_neg c, bfault_j0 k p hp, if_pos rfl, if_pos (.inr (.inl ⟨a3, .inr c⟩))]
        · rw [if_neg r, bfault_j0 k p hp, if_pos rfl, if_pos (.inr (.inl ⟨a3, .inl r⟩))]
theorem rput_E (k : Nat) (hk : 12 ≤ k) (prev tick kind : Int) (data : List Int) (rows cols : Int) (h0 : 0 ≤ prev) (h1 : prev ≤ 4611686018427387904) (h : Ev.chk prev tick kind data rows cols = 0) :
    repriseref23_Put.f k prev tick kind data rows cols = some (Ev.putE prev tick kind data rows cols) := by
  obtain ⟨t0, t1, t2, hkind, hd, hn2, h2⟩ := Ev.chk_ok h
  unfold repriseref23_Put.f
  rw [rfault_f k (by omega) prev h0 h1, Option.bind_some, if_pos h, Ev.putE_ok h0 h1 h]
  have e1 : IntKind.u64.wrap (wrap64 (tick - prev)) = (((tick - prev).toNat : Nat) : Int) := by
    rw [Zig.w64_id _ (by omega) (by omega), Zig.u64w]; omega
  have e2 : IntKind.u64.wrap kind = ((kind.toNat : Nat) : Int) := by rw [Zig.u64w]; omega
  have l1 := Leb.enc_len10 (tick - prev).toNat (by omega)
  have l2 := Leb.enc_len10 kind.toNat (by omega)
  rw [e1, rput_f k _ (by omega) (by omega), Option.bind_some, e2, rput_f k _ (by omega) (by omega), Option.bind_some, if_pos (by omega), Option.bind_some]
  by_cases k2 : kind = 2
  · obtain ⟨_, r1, r2, c1, c2⟩ := h2 k2
    have l3 := Leb.enc_len10 rows.toNat (by omega)
    have l4 := Leb.enc_len10 cols.toNat (by omega)
    have e3 : IntKind.u64.wrap rows = ((rows.toNat : Nat) : Int) := by rw [Zig.u64w]; omega
    have e4 : IntKind.u64.wrap cols = ((cols.toNat : Nat) : Int) := by rw [Zig.u64w]; omega
    rw [if_pos k2, if_pos k2, e3, rput_f k _ (by omega) (by omega), Option.bind_some, if_pos (by rw [List.length_append]; omega), Option.bind_some, e4, rput_f k _ (by omega) (by omega), Option.bind_some,
      if_pos (by rw [List.length_append, List.length_append]; omega), List.append_assoc, List.append_assoc]
  · have l5 := Leb.enc_len10 data.length (by omega)
    have l6 : (Leb.encBytes data).length < 140737488300000 := by unfold Leb.encBytes; rw [List.length_append]; omega
    rw [if_neg k2, if_neg k2, rputBytes_f k data (by omega) (by omega), Option.bind_some, if_pos (by rw [List.length_append]; omega)]
theorem putE_bad (p tick kind : Int) (data : List Int) (rows cols : Int) (hp : p < 0 ∨ p > 4611686018427387904) : Ev.putE p tick kind data rows cols = ([], chkB kind data rows cols) ∧ chkB kind data rows cols ≠ 0 := by
  unfold Ev.putE chkB Ev.chk
  by_cases b1 : (kind ≠ 0 ∧ kind ≠ 1 ∧ kind ≠ 2) ∨ (kind ≠ 2 ∧ (rows ≠ 0 ∨ cols ≠ 0)) ∨ (kind = 2 ∧ (data.length : Int) > 0)
  · rw [if_pos b1, if_pos b1]; exact ⟨rfl, by decide⟩
  · rw [if_neg b1, if_neg b1]
    by_cases b2 : (data.length : Int) > 1048576
    · rw [if_pos b2, if_pos b2]; exact ⟨rfl, by decide⟩
    · rw [if_neg b2, if_neg b2]
      by_cases b3 : kind = 2 ∧ (¬ (1 ≤ rows ∧ rows ≤ 1000) ∨ ¬ (1 ≤ cols ∧ cols ≤ 1000))
      · rw [if_pos b3, if_pos b3]; exact ⟨rfl, by decide⟩
      · rw [if_neg b3, if_neg b3]
        by_cases b4 : tick < 0 ∨ tick > 4611686018427387904 ∨ tick < p
        · rw [if_pos b4]; exact ⟨rfl, by decide⟩
        · rw [if_neg b4, if_pos rfl, if_pos hp]; exact ⟨rfl, by decide⟩
theorem rput_all (k : Nat) (hk : 12 ≤ k) (p tick kind : Int) (data : List Int) (rows cols : Int) : repriseref23_Put.f k p tick kind data rows cols = some (Ev.putE p tick kind data rows cols) := by
  by_cases hp : p < 0 ∨ p > 4611686018427387904
  · obtain ⟨e1, e2⟩ := putE_bad p tick kind data rows cols hp
    rw [e1]
    unfold repriseref23_Put.f
    rw [bfault_f k (by omega) p hp, Option.bind_some, if_neg e2]
  · by_cases h : Ev.chk p tick kind data rows cols = 0
    · exact rput_E k hk p tick kind data rows cols (by omega) (by omega) h
    · unfold repriseref23_Put.f Ev.putE
      rw [rfault_f k (by omega) p (by omega) (by omega), Option.bind_some, if_neg h, if_neg h]
end Go.Proofs.Ytmaefdeigienjaa.QEventTells
