/- Package delta: plain laws of what Make comes to: of nothing, of no bytes. -/
import Derived.Test.YtmaefdeigienjaaDeltaMake
import Derived.Test.YtmaefdeigienjaaDecMath
namespace Go.Proofs.Ytmaefdeigienjaa.DeltaM
open Go Go.RowKit
theorem best_nil (new : List Int) : best [] new = (0, 0) := by
  unfold best
  split
  · rfl
  · simp [pos, bestL]
theorem mk_nil (new : List Int) (f : Nat) : ∀ (out : List Int) (frm i : Nat), mk [] new f out frm i = out ++ lit (new.drop frm) := by
  induction f with
  | zero => intro out frm i; rfl
  | succ f ih =>
    intro out frm i
    rw [mk, best_nil]
    by_cases h : i < new.length
    · rw [if_pos h, if_pos rfl, ih]
    · rw [if_neg h]
theorem make_nil (new : List Int) : make [] new = lit new := by
  unfold make
  rw [mk_nil]
  simp
theorem make_none (old : List Int) : make old [] = [] := by
  unfold make
  rw [mk, if_neg (by simp)]
  simp [lit]
theorem enc_two (n : Nat) (h : 128 ≤ n) (h2 : n < 16384) : (Leb.enc n).length = 2 := by
  rw [Leb.enc_big n (by omega), Leb.enc_small (n / 128) (by omega)]
  rfl
theorem wf8_iff {x : Int} (h : (Lit.int .u8 x).wf = true) : 0 ≤ x ∧ x < 256 := by
  have e : IntKind.u8.max = 255 := by decide
  have e0 : IntKind.u8.min = 0 := by decide
  simp only [Lit.wf, Bool.and_eq_true, decide_eq_true_eq] at h
  omega
end Go.Proofs.Ytmaefdeigienjaa.DeltaM
