/- Plain laws of reading an event: 'readE'; it brings back what 'putE' told. -/
import Derived.Test.YtmaefdeigienjaaEventMath
namespace Go.Proofs.Ytmaefdeigienjaa.Ev
open Go.RowKit
/-- two numbers, one behind the other -/
def nums2 (l : List Int) : Int × Int × Int × Int :=
  if (Leb.dec l).2.2 = 0 then
    (if (Leb.dec (l.drop (Leb.dec l).2.1.toNat)).2.2 = 0 then ((Leb.dec l).1, (Leb.dec (l.drop (Leb.dec l).2.1.toNat)).1, (Leb.dec l).2.1 + (Leb.dec (l.drop (Leb.dec l).2.1.toNat)).2.1, 0)
     else (0, 0, 0, (Leb.dec (l.drop (Leb.dec l).2.1.toNat)).2.2))
  else (0, 0, 0, (Leb.dec l).2.2)
theorem nums2_ok (l : List Int) (hb : ∀ x ∈ l, 0 ≤ x ∧ x < 256) :
    ((nums2 l).2.2.2 = 0 ∧ 0 ≤ (nums2 l).1 ∧ (nums2 l).1 < 18446744073709551616 ∧ 0 ≤ (nums2 l).2.1 ∧ (nums2 l).2.1 < 18446744073709551616 ∧ 0 < (nums2 l).2.2.1 ∧ (nums2 l).2.2.1 ≤ l.length) ∨
    ((nums2 l).1 = 0 ∧ (nums2 l).2.1 = 0 ∧ (nums2 l).2.2.1 = 0 ∧ ((nums2 l).2.2.2 = 21 ∨ (nums2 l).2.2.2 = 22)) := by
  unfold nums2
  rcases Leb.dec_ok l hb with ⟨d1, d2, d3, d4, d5, d6⟩ | ⟨d1, d2, d3⟩
  · rw [if_pos d1]
    rcases Leb.dec_ok (l.drop (Leb.dec l).2.1.toNat) (fun x hx => hb x (List.mem_of_mem_drop hx)) with ⟨e1, e2, e3, e4, e5, e6⟩ | ⟨e1, e2, e3⟩
    · rw [if_pos e1]
      left
      rw [List.length_drop] at e5
      exact ⟨rfl, d2, d3, e2, e3, by simp only; omega, by simp only; omega⟩
    · rw [if_neg (by omega)]
      right
      exact ⟨rfl, rfl, rfl, e3⟩
  · rw [if_neg (by omega)]
    right
    exact ⟨rfl, rfl, rfl, d3⟩
theorem nums2_enc (m n : Nat) (r : List Int) (hm : m < 18446744073709551616) (hn : n < 18446744073709551616) :
    nums2 (Leb.enc m ++ (Leb.enc n ++ r)) = ((m : Int), (n : Int), (((Leb.enc m).length + (Leb.enc n).length : Nat) : Int), 0) := by
  unfold nums2
  rw [Leb.dec_enc m _ hm]
  simp only [if_true, Int.toNat_natCast]
  rw [List.drop_left, Leb.dec_enc n _ hn]
  simp
/-- an event's end: its tick, whether it may be -/
def fin (prev gap at_ size err kind : Int) (data : List Int) (rows cols : Int) : Int × Int × List Int × Int × Int × Int × Int :=
  if err = 0 then
    (if prev < 0 ∨ prev > 4611686018427387904 ∨ gap > 4611686018427387904 - prev then (0, 0, [], 0, 0, 0, 21)
     else if chk prev (prev + gap) kind data rows cols = 0 then (prev + gap, kind, data, rows, cols, at_ + size, 0) else (0, 0, [], 0, 0, 0, 21))
  else (0, 0, [], 0, 0, 0, err)
/-- the event that bytes begin with, how many these are; or why none -/
def readE (prev : Int) (l : List Int) : Int × Int × List Int × Int × Int × Int × Int :=
  if (nums2 l).2.2.2 = 0 then
    (if (nums2 l).2.1 > 2 then (0, 0, [], 0, 0, 0, 21)
     else if (nums2 l).2.1 = 2 then fin prev (nums2 l).1 (nums2 l).2.2.1 (nums2 (l.drop (nums2 l).2.2.1.toNat)).2.2.1 (nums2 (l.drop (nums2 l).2.2.1.toNat)).2.2.2 2 [] (min (nums2 (l.drop (nums2 l).2.2.1.toNat)).1 1001) (min (nums2 (l.drop (nums2 l).2.2.1.toNat)).2.1 1001)
     else fin prev (nums2 l).1 (nums2 l).2.2.1 (Leb.decBytes (l.drop (nums2 l).2.2.1.toNat) 1048576).2.1 (Leb.decBytes (l.drop (nums2 l).2.2.1.toNat) 1048576).2.2 (nums2 l).2.1 (Leb.decBytes (l.drop (nums2 l).2.2.1.toNat) 1048576).1 0 0)
  else (0, 0, [], 0, 0, 0, (nums2 l).2.2.2)
theorem putE_ok {prev tick kind : Int} {data : List Int} {rows cols : Int} (h0 : 0 ≤ prev) (h1 : prev ≤ 4611686018427387904) (h : chk prev tick kind data rows cols = 0) :
    putE prev tick kind data rows cols = (Leb.enc (tick - prev).toNat ++ Leb.enc kind.toNat ++ (if kind = 2 then Leb.enc rows.toNat ++ Leb.enc cols.toNat else Leb.encBytes data), 0) := by
  unfold putE
  rw [if_pos h, if_neg (by omega)]
theorem readE_put {prev tick kind : Int} {data : List Int} {rows cols : Int} (r : List Int) (h0 : 0 ≤ prev) (h1 : prev ≤ 4611686018427387904) (h : chk prev tick kind data rows cols = 0) :
    readE prev ((putE prev tick kind data rows cols).1 ++ r) = (tick, kind, data, rows, cols, ((putE prev tick kind data rows cols).1.length : Int), 0) := by
  obtain ⟨t0, t1, t2, hkind, hd, hn2, h2⟩ := chk_ok h
  rw [putE_ok h0 h1 h]
  simp only [List.append_assoc]
  generalize hq : (if kind = 2 then Leb.enc rows.toNat ++ Leb.enc cols.toNat else Leb.encBytes data) = q
  have hN := nums2_enc (tick - prev).toNat kind.toNat (q ++ r) (by omega) (by omega)
  have hdrop : (Leb.enc (tick - prev).toNat ++ (Leb.enc kind.toNat ++ (q ++ r))).drop ((Leb.enc (tick - prev).toNat).length + (Leb.enc kind.toNat).length) = q ++ r := by
    rw [← List.append_assoc, ← List.length_append, List.drop_left]
  unfold readE
  rw [hN]
  simp only [if_true, Int.toNat_natCast]
  rw [hdrop, if_neg (by omega)]
  have ek : (kind.toNat : Int) = kind := by omega
  have et : prev + ((tick - prev).toNat : Int) = tick := by omega
  have fine : ∀ (at_ size : Int), fin prev ((tick - prev).toNat : Int) at_ size 0 kind data rows cols = (tick, kind, data, rows, cols, at_ + size, 0) := by
    intro at_ size
    unfold fin
    rw [if_pos rfl, if_neg (by omega), et, if_pos h]
  by_cases hk : kind = 2
  · obtain ⟨rfl, r1, r2, c1, c2⟩ := h2 hk
    rw [if_pos hk] at hq
    subst hq
    rw [if_pos (by omega), List.append_assoc, nums2_enc rows.toNat cols.toNat r (by omega) (by omega)]
    simp only
    rw [show min ((rows.toNat : Nat) : Int) 1001 = rows from by omega, show min ((cols.toNat : Nat) : Int) 1001 = cols from by omega]
    have := fine (((Leb.enc (tick - prev).toNat).length + (Leb.enc kind.toNat).length : Nat) : Int) (((Leb.enc rows.toNat).length + (Leb.enc cols.toNat).length : Nat) : Int)
    rw [hk] at this
    rw [hk]
    rw [this]
    simp only [List.length_append]
    congr 6
    omega
  · rw [if_neg hk] at hq
    subst hq
    obtain ⟨rfl, rfl⟩ := hn2 hk
    rw [if_neg (by omega), Leb.decBytes_enc data r 1048576 (by omega), if_neg (by omega), ek]
    simp only
    rw [fine]
    simp only [List.length_append]
    congr 6
    omega
theorem readE_nil (prev : Int) : readE prev [] = (0, 0, [], 0, 0, 0, 22) := by
  unfold readE nums2 Leb.dec Leb.decA
  simp
end Go.Proofs.Ytmaefdeigienjaa.Ev
