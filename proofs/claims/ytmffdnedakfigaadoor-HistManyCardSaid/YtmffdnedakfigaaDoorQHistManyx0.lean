/- Lean functions for the Go functions that the law reaches, and proofs that each call comes to just what its Lean function tells; no condition. (Written by a program of this session.) -/
import Derived.Test.YtmffdnedakfigaaDoorProg
import Derived.Lib.LazyBuf
import Derived.Below
import Derived.Deep.Draws
import Derived.Deep.AppendLies
import Derived.Maps.AppendAt
import Derived.OwnWalk
import Derived.Laws.BytesArg
import Derived.Laws.MakeOwn
import Derived.Laws.OwnMore
import Derived.Deep.OwnRows
import Derived.Tactics
import Derived.Lib.ConvBytes
import Derived.Laws.Slices
import Derived.WalkKit
import Derived.KernelRfl
import Derived.RowKit3
import Derived.Deep.LoopGhost
import Derived.Deep.QuietTactic
import Derived.BigQuiet
import Derived.WideLaws
import Derived.Deep.DeepCutAuto
import Derived.Deep.CutBlock
import Derived.Deep.RegionHeld3
import Derived.Laws.Rows
import Derived.Lib.AppendStr
import Derived.ArgAppend
import Derived.Laws.IdiomCopy
import Derived.OrdersHeld
import Derived.Laws.BitsLemmas
import Derived.RowKit
import Derived.Test.YtmffdnedakfigaaDoorHistPre
import Derived.Test.YtmffdnedakfigaaDoorWWords
import Derived.Test.YtmffdnedakfigaaDoorWLast
import Derived.Test.YtmffdnedakfigaaDoorWTab
import Derived.Test.YtmffdnedakfigaaDoorWFour
import Derived.Test.YtmffdnedakfigaaDoorWQPut
import Derived.Test.YtmffdnedakfigaaDoorWApart
import Derived.Test.YtmffdnedakfigaaDoorWArr
import Derived.Test.YtmffdnedakfigaaDoorWZeros
import Derived.Test.YtmffdnedakfigaaDoorWFoot
import Derived.Test.YtmffdnedakfigaaDoorWKept
import Derived.Test.YtmffdnedakfigaaDoorWShare
import Derived.Test.YtmffdnedakfigaaDoorWN
import Derived.Test.YtmffdnedakfigaaDoorWFootNe
import Derived.Test.YtmffdnedakfigaaDoorWAt
import Derived.Test.YtmffdnedakfigaaDoorWEqStruct
import Derived.Test.YtmffdnedakfigaaDoorWRepsOne
import Derived.Test.YtmffdnedakfigaaDoorWInv
import Derived.Test.YtmffdnedakfigaaDoorWInvWords
import Derived.Test.YtmffdnedakfigaaDoorWGuard
import Derived.Test.YtmffdnedakfigaaDoorWNEv
import Derived.Test.YtmffdnedakfigaaDoorWMore
namespace Go.Proofs.YtmffdnedakfigaaDoor.QHistMany
open Go.RowKit Go.Proofs.YtmffdnedakfigaaDoorW.PrintWords Go.Proofs.YtmffdnedakfigaaDoorW.PrintLast Go.Proofs.YtmffdnedakfigaaDoorW.PrintMore
attribute [local go_sem] max2_int min2_int max_two min_two max_three min_three max_four min_four   -- for this text's walks alone
set_option linter.unusedVariables false
set_option linter.unusedSimpArgs false



def errW : Option Int → Value
  | none => .nilIface
  | some c => .iface 0 (.int .i64 c)
theorem errW_none : errW none = .nilIface := rfl
theorem errW_some (c : Int) : errW (some c) = .iface 0 (.int .i64 c) := rfl

theorem ownLen (A : Option Addr) (n m c : Nat) : (Value.slice A n c).ownBlock = (Value.slice A m c).ownBlock := by cases A <;> rfl
theorem info9 : (Tryd.prog.info? 9).map (fun i => (i.zero, i.size, i.bytes)) = some (some (.string ⟨#[]⟩), 1, 16) := by kernel_rfl
-- the values' own types

end Go.Proofs.YtmffdnedakfigaaDoor.QHistMany
