/- DeltaNone: of nothing ahead all bytes are one part, and of no bytes there is none; for every choice of the law. -/
import Derived.Test.YtmaefdeigienjaaQDeltaNonex3
namespace Go.Proofs.Ytmaefdeigienjaa.Pure
open Go.RowKit Go.Proofs.Ytmaefdeigienjaa.QDeltaNone Go.Proofs.YtmaefdeigienjaaW.PrintWords Go.Proofs.YtmaefdeigienjaaW.PrintLast
theorem DeltaNone : repriselaw5_DeltaNone.Pure := by
  unfold repriselaw5_DeltaNone.Pure
  intro l0 h1 h2 h3
  unfold repriselaw5_DeltaNone.f
  rw [if_pos (fun x hx => DeltaM.wf8_iff (h3 x hx))]
end Go.Proofs.Ytmaefdeigienjaa.Pure
