/- Plain laws of events: which may be ('chk'), their bytes ('putE'). -/
import Derived.Test.YtmaefdeigienjaaDecMath
namespace Go.Proofs.Ytmaefdeigienjaa.Ev
open Go.RowKit
/-- an event's error, behind a tick -/
def chk (prev tick kind : Int) (data : List Int) (rows cols : Int) : Int :=
  if (kind ≠ 0 ∧ kind ≠ 1 ∧ kind ≠ 2) ∨ (kind ≠ 2 ∧ (rows ≠ 0 ∨ cols ≠ 0)) ∨ (kind = 2 ∧ (data.length : Int) > 0) then 27
  else if (data.length : Int) > 1048576 then 25
  else if kind = 2 ∧ (¬ (1 ≤ rows ∧ rows ≤ 1000) ∨ ¬ (1 ≤ cols ∧ cols ≤ 1000)) then 26
  else if tick < 0 ∨ tick > 4611686018427387904 ∨ tick < prev then 24 else 0
/-- an event's bytes -/
def putE (prev tick kind : Int) (data : List Int) (rows cols : Int) : List Int × Int :=
  if chk prev tick kind data rows cols = 0 then
    (if prev < 0 ∨ prev > 4611686018427387904 then ([], 24)
     else (Leb.enc (tick - prev).toNat ++ Leb.enc kind.toNat ++ (if kind = 2 then Leb.enc rows.toNat ++ Leb.enc cols.toNat else Leb.encBytes data), 0))
  else ([], chk prev tick kind data rows cols)
theorem chk_ok {prev tick kind : Int} {data : List Int} {rows cols : Int} (h : chk prev tick kind data rows cols = 0) :
    0 ≤ tick ∧ tick ≤ 4611686018427387904 ∧ prev ≤ tick ∧ (kind = 0 ∨ kind = 1 ∨ kind = 2) ∧ data.length ≤ 1048576 ∧
    (kind ≠ 2 → rows = 0 ∧ cols = 0) ∧ (kind = 2 → data = [] ∧ 1 ≤ rows ∧ rows ≤ 1000 ∧ 1 ≤ cols ∧ cols ≤ 1000) := by
  unfold chk at h
  split at h
  · cases h
  · rename_i h1
    split at h
    · cases h
    · rename_i h2
      split at h
      · cases h
      · rename_i h3
        split at h
        · cases h
        · rename_i h4
          refine ⟨by omega, by omega, by omega, by omega, by omega, fun hk => by omega, fun hk => ⟨?_, by omega, by omega, by omega, by omega⟩⟩
          apply List.eq_nil_of_length_eq_zero
          omega
theorem chk_in (prev tick kind : Int) (data : List Int) (rows cols : Int) : chk prev tick kind data rows cols = 0 ∨ chk prev tick kind data rows cols = 24 ∨ chk prev tick kind data rows cols = 25 ∨ chk prev tick kind data rows cols = 26 ∨ chk prev tick kind data rows cols = 27 := by
  unfold chk; repeat' split
  all_goals simp
end Go.Proofs.Ytmaefdeigienjaa.Ev
