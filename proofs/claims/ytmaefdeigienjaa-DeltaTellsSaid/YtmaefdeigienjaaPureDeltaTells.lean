/- DeltaTells: just which parts new bytes are made of, and what any parts come to, or why nothing; for every choice of the law. -/
import Derived.Test.YtmaefdeigienjaaQDeltaTellsx6
namespace Go.Proofs.Ytmaefdeigienjaa.Pure
open Go.RowKit Go.Proofs.Ytmaefdeigienjaa.QDeltaTells Go.Proofs.YtmaefdeigienjaaW.PrintWords Go.Proofs.YtmaefdeigienjaaW.PrintLast
theorem wf64_iff {x : Int} (h : (Lit.int .i64 x).wf = true) : -9223372036854775808 ≤ x ∧ x < 9223372036854775808 := by
  have e : IntKind.i64.max = 9223372036854775807 := by decide
  have e0 : IntKind.i64.min = -9223372036854775808 := by decide
  simp only [Lit.wf, Bool.and_eq_true, decide_eq_true_eq] at h
  omega
theorem DeltaTells : repriselaw5_DeltaTells.Pure := by
  unfold repriselaw5_DeltaTells.Pure
  intro l0 l1 l2 l3 a4 a5 _ _ h0 _ _ h1 _ _ h2 _ _ h3 h4 h5
  unfold repriselaw5_DeltaTells.f
  rw [if_pos ⟨fun x hx => DeltaM.wf8_iff (h0 x hx), fun x hx => DeltaM.wf8_iff (h1 x hx), fun x hx => wf16_iff (h2 x hx), fun x hx => DeltaM.wf8_iff (h3 x hx), wf64_iff h4, DeltaM.wf8_iff h5⟩]
end Go.Proofs.Ytmaefdeigienjaa.Pure
