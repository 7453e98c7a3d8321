/- Lean functions for the Go functions that the law reaches, and proofs that each call comes to just what its Lean function tells; no condition. (Written by a program of this session.) -/
import Derived.Test.YtmaefdeigienjaaQEventLimitsx0
import Derived.Test.YtmaefdeigienjaaQEventLimitsx1
import Derived.Test.YtmaefdeigienjaaQEventLimitsx2
import Derived.Test.YtmaefdeigienjaaQEventLimitsx3
import Derived.Test.YtmaefdeigienjaaQEventLimitsx4
import Derived.Test.YtmaefdeigienjaaQEventLimitsx5
import Derived.Test.YtmaefdeigienjaaQEventLimitsx6
namespace Go.Proofs.Ytmaefdeigienjaa.QEventLimits
open Go.RowKit Go.Proofs.YtmaefdeigienjaaW.PrintWords Go.Proofs.YtmaefdeigienjaaW.PrintLast Go.Proofs.YtmaefdeigienjaaW.PrintMore
attribute [local go_sem] max2_int min2_int max_two min_two max_three min_three max_four min_four   -- for this text's walks alone
set_option linter.unusedVariables false
set_option linter.unusedSimpArgs false

end Go.Proofs.Ytmaefdeigienjaa.QEventLimits
