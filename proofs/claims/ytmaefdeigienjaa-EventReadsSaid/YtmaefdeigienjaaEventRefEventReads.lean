/- The document's Fault and Read of events come to the plain ones; for every bytes. -/
import Derived.Test.YtmaefdeigienjaaEventRdEventReads
import Derived.Test.YtmaefdeigienjaaLebRefEventReads
namespace Go.Proofs.Ytmaefdeigienjaa.QEventReads
open Go.RowKit Go.Proofs.YtmaefdeigienjaaW.PrintWords Go.Proofs.YtmaefdeigienjaaW.PrintLast Go.Proofs.YtmaefdeigienjaaW.PrintMore
theorem rfault_j1 (k : Nat) (p : Int) (h0 : 0 ≤ p) (h1 : p ≤ 4611686018427387904) (b : Bool) (tick kind : Int) (data : List Int) (rows cols : Int) :
    repriseref23_Fault.j1 (k + 1) p b tick kind data rows cols = some (if b = true then 26 else if tick < 0 ∨ tick > 4611686018427387904 ∨ tick < p then 24 else 0) := by
  rw [repriseref23_Fault.j1]
  cases b with
  | true => rfl
  | false =>
    simp only [Bool.false_eq_true, if_false]
    rw [if_neg (show ¬ p < 0 by omega), if_neg (show ¬ p > 4611686018427387904 by omega)]
    by_cases t1 : tick < p
    · rw [if_pos t1, if_pos (.inr (.inr t1))]
    · rw [if_neg t1]
      by_cases t2 : tick > 4611686018427387904
      · rw [if_pos t2, if_pos (.inr (.inl t2))]
      · rw [if_neg t2, if_neg (show ¬ (tick < 0 ∨ tick > 4611686018427387904 ∨ tick < p) by omega)]
theorem rfault_j0 (k : Nat) (p : Int) (h0 : 0 ≤ p) (h1 : p ≤ 4611686018427387904) (b : Bool) (tick kind : Int) (data : List Int) (rows cols : Int) :
    repriseref23_Fault.j0 (k + 2) p b tick kind data rows cols = some (if b = true then 27 else if (data.length : Int) > 1048576 then 25 else if kind = 2 ∧ (¬ (1 ≤ rows ∧ rows ≤ 1000) ∨ ¬ (1 ≤ cols ∧ cols ≤ 1000)) then 26 else if tick < 0 ∨ tick > 4611686018427387904 ∨ tick < p then 24 else 0) := by
  rw [repriseref23_Fault.j0]
  cases b with
  | true => rfl
  | false =>
    simp only [Bool.false_eq_true, if_false]
    by_cases hd : (data.length : Int) > 1048576
    · rw [if_pos hd, if_pos hd]
    · rw [if_neg hd, if_neg hd]
      by_cases hk : kind = 2
      · rw [if_pos hk]
        by_cases r1 : rows < 1
        · rw [if_pos r1, rfault_j1 k p h0 h1, if_pos rfl, if_pos ⟨hk, .inl (by omega)⟩]
        · rw [if_neg r1]
          by_cases r2 : rows > 1000
          · rw [if_pos r2, rfault_j1 k p h0 h1, if_pos rfl, if_pos ⟨hk, .inl (by omega)⟩]
          · rw [if_neg r2]
            by_cases c1 : cols < 1
            · rw [if_pos c1, rfault_j1 k p h0 h1, if_pos rfl, if_pos ⟨hk, .inr (by omega)⟩]
            · rw [if_neg c1, rfault_j1 k p h0 h1]
              by_cases c2 : cols > 1000
              · rw [if_pos (decide_eq_true c2), if_pos ⟨hk, .inr (by omega)⟩]
              · rw [if_neg (by rw [decide_eq_true_eq]; exact c2), if_neg (show ¬ (kind = 2 ∧ (¬ (1 ≤ rows ∧ rows ≤ 1000) ∨ ¬ (1 ≤ cols ∧ cols ≤ 1000))) by omega)]
      · rw [if_neg hk, rfault_j1 k p h0 h1, if_neg (show ¬ (kind = 2 ∧ (¬ (1 ≤ rows ∧ rows ≤ 1000) ∨ ¬ (1 ≤ cols ∧ cols ≤ 1000))) from fun h => hk h.1)]
        simp only [Bool.false_eq_true, if_false]
theorem rfault_f (k : Nat) (hk : 2 ≤ k) (p : Int) (h0 : 0 ≤ p) (h1 : p ≤ 4611686018427387904) (tick kind : Int) (data : List Int) (rows cols : Int) :
    repriseref23_Fault.f k p tick kind data rows cols = some (Ev.chk p tick kind data rows cols) := by
  obtain ⟨k, rfl⟩ : ∃ m, k = m + 2 := ⟨k - 2, by omega⟩
  unfold repriseref23_Fault.f Ev.chk
  by_cases a1 : kind < 0
  · rw [if_pos a1, rfault_j0 k p h0 h1, if_pos rfl, if_pos (.inl (by omega))]
  · rw [if_neg a1]
    by_cases a2 : kind > 2
    · rw [if_pos a2, rfault_j0 k p h0 h1, if_pos rfl, if_pos (.inl (by omega))]
    · rw [if_neg a2]
      by_cases a3 : kind = 2
      · rw [if_pos a3, rfault_j0 k p h0 h1]
        by_cases hd : (data.length : Int) > 0
        · rw [if_pos (decide_eq_true hd), if_pos (.inr (.inr ⟨a3, hd⟩))]
        · rw [if_neg (by rw [decide_eq_true_eq]; exact hd), if_neg (show ¬ ((kind ≠ 0 ∧ kind ≠ 1 ∧ kind ≠ 2) ∨ (kind ≠ 2 ∧ (rows ≠ 0 ∨ cols ≠ 0)) ∨ (kind = 2 ∧ (data.length : Int) > 0)) by omega)]
      · rw [if_neg a3]
        by_cases r : rows = 0
        · rw [if_pos r]
          by_cases c : cols = 0
          · rw [if_pos c, rfault_j0 k p h0 h1, if_neg (by decide), if_neg (show ¬ ((kind ≠ 0 ∧ kind ≠ 1 ∧ kind ≠ 2) ∨ (kind ≠ 2 ∧ (rows ≠ 0 ∨ cols ≠ 0)) ∨ (kind = 2 ∧ (data.length : Int) > 0)) by omega)]
          · rw [if_neg c, rfault_j0 k p h0 h1, if_pos rfl, if_pos (.inr (.inl ⟨a3, .inr c⟩))]
        · rw [if_neg r, rfault_j0 k p h0 h1, if_pos rfl, if_pos (.inr (.inl ⟨a3, .inl r⟩))]
theorem rread_j0 (k : Nat) (hk : 10 ≤ k) (prev gap at_ : Int) (kind : Int) (data : List Int) (rows cols : Int) (hp : -9223372036854775808 ≤ prev ∧ prev < 9223372036854775808) (hg : 0 ≤ gap) :
    repriseref23_Read.j0 k prev gap at_ 0 kind data rows cols = some (Ev.fin prev gap at_ 0 0 kind data rows cols) := by
  obtain ⟨k, rfl⟩ : ∃ m, k = m + 2 := ⟨k - 2, by omega⟩
  rw [repriseref23_Read.j0]
  unfold Ev.fin
  rw [if_pos rfl]
  by_cases h1 : prev < 0
  · rw [if_pos h1, repriseref23_Read.j1, if_pos rfl, if_pos (.inl h1)]
  · rw [if_neg h1]
    by_cases h2 : prev > 4611686018427387904
    · rw [if_pos h2, repriseref23_Read.j1, if_pos rfl, if_pos (.inr (.inl h2))]
    · have e1 : IntKind.u64.wrap (wrap64 (4611686018427387904 - prev)) = 4611686018427387904 - prev := by rw [Zig.w64_id _ (by omega) (by omega), Zig.u64w]; omega
      rw [if_neg h2, e1, repriseref23_Read.j1]
      by_cases h3 : gap > 4611686018427387904 - prev
      · rw [if_pos (by simpa using h3), if_pos (.inr (.inr h3))]
      · have e2 : wrap64 (prev + wrap64 gap) = prev + gap := by rw [Zig.w64_id gap (by omega) (by omega), Zig.w64_id _ (by omega) (by omega)]
        rw [if_neg (by simpa using h3), if_neg (show ¬ (prev < 0 ∨ prev > 4611686018427387904 ∨ gap > 4611686018427387904 - prev) by omega), e2, rfault_f k (by omega) prev (by omega) (by omega), Option.bind_some]
        by_cases h4 : Ev.chk prev (prev + gap) kind data rows cols = 0
        · rw [if_pos h4, if_pos h4, Int.add_zero]
        · rw [if_neg h4, if_neg h4]
theorem fin_size (prev gap a b : Int) (kind : Int) (data : List Int) (rows cols : Int) : Ev.fin prev gap a b 0 kind data rows cols = Ev.fin prev gap (a + b) 0 0 kind data rows cols := by
  unfold Ev.fin
  rw [Int.add_zero]
theorem fin_min (prev gap a b m n : Int) : Ev.fin prev gap a b 0 2 [] (min m 1001) (min n 1001) = Ev.fin prev gap a b 0 2 [] (min m 2000) (min n 2000) := by
  by_cases h : m ≤ 1000 ∧ n ≤ 1000
  · rw [Int.min_eq_left (by omega), Int.min_eq_left (by omega), Int.min_eq_left (by omega), Int.min_eq_left (by omega)]
  · have bad : ∀ (x y : Int), (x > 1000 ∨ y > 1000) → Ev.chk prev (prev + gap) 2 [] x y = 26 := by
      intro x y hxy
      unfold Ev.chk
      rw [if_neg (by simp), if_neg (by simp), if_pos ⟨rfl, by omega⟩]
    unfold Ev.fin
    rw [bad (min m 1001) (min n 1001) (by omega), bad (min m 2000) (min n 2000) (by omega), if_neg (show ¬ (26 : Int) = 0 by decide), if_neg (show ¬ (26 : Int) = 0 by decide)]
theorem rread_E (k : Nat) (hk : 40 ≤ k) (prev : Int) (l : List Int) (hl : l.length < 140737488355328) (hb : ∀ x ∈ l, 0 ≤ x ∧ x < 256) (hp : -9223372036854775808 ≤ prev ∧ prev < 9223372036854775808) :
    repriseref23_Read.f k prev l = some (Ev.readE prev l) := by
  unfold repriseref23_Read.f Ev.readE
  rw [rread_f k l hb (by omega), Option.bind_some]
  rcases Leb.dec_ok l hb with ⟨d1, d2, d3, d4, d5, d6⟩ | ⟨d1, d2, d3⟩
  · have hb2 : ∀ x ∈ l.drop (Leb.dec l).2.1.toNat, 0 ≤ x ∧ x < 256 := fun x hx => hb x (List.mem_of_mem_drop hx)
    rw [if_pos d1, if_pos (by omega), if_pos d5, rread_f k _ hb2 (by omega), Option.bind_some]
    rcases Leb.dec_ok _ hb2 with ⟨e1, e2, e3, e4, e5, e6⟩ | ⟨e1, e2, e3⟩
    · have hn : Ev.nums2 l = ((Leb.dec l).1, (Leb.dec (l.drop (Leb.dec l).2.1.toNat)).1, (Leb.dec l).2.1 + (Leb.dec (l.drop (Leb.dec l).2.1.toNat)).2.1, 0) := by
        unfold Ev.nums2; rw [if_pos d1, if_pos e1]
      rw [hn, if_pos e1]
      rw [List.length_drop] at e5
      have ew : wrap64 ((Leb.dec l).2.1 + (Leb.dec (l.drop (Leb.dec l).2.1.toNat)).2.1) = (Leb.dec l).2.1 + (Leb.dec (l.drop (Leb.dec l).2.1.toNat)).2.1 := Zig.w64_id _ (by omega) (by omega)
      rw [ew]
      dsimp only
      rw [if_pos rfl]
      generalize hA : (Leb.dec l).2.1 + (Leb.dec (l.drop (Leb.dec l).2.1.toNat)).2.1 = A at *
      generalize (Leb.dec (l.drop (Leb.dec l).2.1.toNat)).1 = K at *
      have hA0 : 0 ≤ A ∧ A ≤ l.length := by omega
      have hb3 : ∀ x ∈ l.drop A.toNat, 0 ≤ x ∧ x < 256 := fun x hx => hb x (List.mem_of_mem_drop hx)
      by_cases h1 : K > 2
      · rw [if_pos h1, if_pos h1]
      · rw [if_neg h1, if_neg h1]
        by_cases h2 : K = 2
        · rw [if_pos h2, if_pos h2, if_pos hA0.1, if_pos hA0.2, rread_f k _ hb3 (by omega), Option.bind_some]
          rcases Leb.dec_ok _ hb3 with ⟨f1, f2, f3, f4, f5, f6⟩ | ⟨f1, f2, f3⟩
          · have hb4 : ∀ x ∈ (l.drop A.toNat).drop (Leb.dec (l.drop A.toNat)).2.1.toNat, 0 ≤ x ∧ x < 256 := fun x hx => hb3 x (List.mem_of_mem_drop hx)
            rw [List.length_drop] at f5
            have ew2 : wrap64 (A + (Leb.dec (l.drop A.toNat)).2.1) = A + (Leb.dec (l.drop A.toNat)).2.1 := Zig.w64_id _ (by omega) (by omega)
            have ed : l.drop (A + (Leb.dec (l.drop A.toNat)).2.1).toNat = (l.drop A.toNat).drop (Leb.dec (l.drop A.toNat)).2.1.toNat := by
              rw [List.drop_drop]; congr 1; omega
            rw [if_pos f1, ew2, if_pos (by omega), if_pos (by omega), ed, rread_f k _ hb4 (by omega), Option.bind_some]
            unfold Ev.nums2
            rw [if_pos f1]
            rcases Leb.dec_ok _ hb4 with ⟨g1, g2, g3, g4, g5, g6⟩ | ⟨g1, g2, g3⟩
            · rw [List.length_drop, List.length_drop] at g5
              rw [if_pos g1, if_pos g1]
              dsimp only
              rw [Zig.w64_id (A + (Leb.dec (l.drop A.toNat)).2.1 + _) (by omega) (by omega), mn_eq, mn_eq, Zig.w64_id (min _ 2000) (by omega) (by omega), Zig.w64_id (min _ 2000) (by omega) (by omega), rread_j0 k (by omega) _ _ _ _ _ _ _ hp d2, fin_min, fin_size _ _ A, Int.add_assoc]
            · rw [if_neg (by omega), if_neg (by omega)]
              dsimp only
              unfold Ev.fin
              rw [if_neg (by omega)]
          · rw [if_neg (by omega)]
            unfold Ev.nums2
            rw [if_neg (show ¬ (Leb.dec (l.drop A.toNat)).2.2 = 0 by omega)]
            dsimp only
            unfold Ev.fin
            rw [if_neg (by omega)]
        · have hd := decBytes_size _ 1048576 hb3
          rw [List.length_drop] at hd
          rw [if_neg h2, if_neg h2, if_pos hA0.1, if_pos hA0.2, rreadBytes_f k _ 1048576 (by rw [List.length_drop]; omega) hb3 (by decide) (by decide) (by omega), Option.bind_some]
          by_cases he : (Leb.decBytes (l.drop A.toNat) 1048576).2.2 = 0
          · rw [if_pos he, he, Zig.w64_id K (by omega) (by omega), Zig.w64_id (A + _) (by omega) (by omega), rread_j0 k (by omega) _ _ _ _ _ _ _ hp d2, fin_size _ _ A]
          · rw [if_neg he]
            unfold Ev.fin
            rw [if_neg he]
    · have hn : Ev.nums2 l = (0, 0, 0, (Leb.dec (l.drop (Leb.dec l).2.1.toNat)).2.2) := by
        unfold Ev.nums2; rw [if_pos d1, if_neg (by omega)]
      rw [hn, if_neg (by omega)]
      dsimp only
      rw [if_neg (by omega)]
  · have hn : Ev.nums2 l = (0, 0, 0, (Leb.dec l).2.2) := by
      unfold Ev.nums2; rw [if_neg (by omega)]
    rw [hn, if_neg (by omega)]
    dsimp only
    rw [if_neg (by omega)]
end Go.Proofs.Ytmaefdeigienjaa.QEventReads
