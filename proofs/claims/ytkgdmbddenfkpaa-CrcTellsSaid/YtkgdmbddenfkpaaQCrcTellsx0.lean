/- Lean functions for the Go functions that the law reaches, and proofs that each call comes to just what its Lean function tells; no condition. (Written by a program of this session.) -/
import Derived.Test.YtkgdmbddenfkpaaProg
import Derived.Lib.LazyBuf
import Derived.Below
import Derived.Deep.Draws
import Derived.Deep.AppendLies
import Derived.Maps.AppendAt
import Derived.OwnWalk
import Derived.Laws.BytesArg
import Derived.Laws.MakeOwn
import Derived.Laws.OwnMore
import Derived.Deep.OwnRows
import Derived.Tactics
import Derived.Lib.ConvBytes
import Derived.Laws.Slices
import Derived.WalkKit
import Derived.KernelRfl
import Derived.RowKit3
import Derived.Deep.LoopGhost
import Derived.Deep.QuietTactic
import Derived.BigQuiet
import Derived.WideLaws
import Derived.Deep.DeepCutAuto
import Derived.Deep.CutBlock
import Derived.Deep.RegionHeld3
import Derived.Laws.Rows
import Derived.Lib.AppendStr
import Derived.ArgAppend
import Derived.Laws.IdiomCopy
import Derived.OrdersHeld
import Derived.Laws.BitsLemmas
import Derived.RowKit
import Derived.Test.YtkgdmbddenfkpaaCrcWalk
import Derived.Lib.SlBytesConst
import Derived.Deep.RegionWith
import Derived.Test.YtkgdmbddenfkpaaWWords
import Derived.Test.YtkgdmbddenfkpaaWLast
import Derived.Test.YtkgdmbddenfkpaaWTab
import Derived.Test.YtkgdmbddenfkpaaWFour
import Derived.Test.YtkgdmbddenfkpaaWQPut
import Derived.Test.YtkgdmbddenfkpaaWApart
import Derived.Test.YtkgdmbddenfkpaaWArr
import Derived.Test.YtkgdmbddenfkpaaWZeros
import Derived.Test.YtkgdmbddenfkpaaWFoot
import Derived.Test.YtkgdmbddenfkpaaWKept
import Derived.Test.YtkgdmbddenfkpaaWShare
import Derived.Test.YtkgdmbddenfkpaaWN
import Derived.Test.YtkgdmbddenfkpaaWFootNe
import Derived.Test.YtkgdmbddenfkpaaWAt
import Derived.Test.YtkgdmbddenfkpaaWEqStruct
import Derived.Test.YtkgdmbddenfkpaaWRepsOne
import Derived.Test.YtkgdmbddenfkpaaWInv
import Derived.Test.YtkgdmbddenfkpaaWInvWords
import Derived.Test.YtkgdmbddenfkpaaWGuard
import Derived.Test.YtkgdmbddenfkpaaWNEv
import Derived.Test.YtkgdmbddenfkpaaWMore
namespace Go.Proofs.Ytkgdmbddenfkpaa.QCrcTells
open Go.RowKit Go.Proofs.YtkgdmbddenfkpaaW.PrintWords Go.Proofs.YtkgdmbddenfkpaaW.PrintLast Go.Proofs.YtkgdmbddenfkpaaW.PrintMore
attribute [local go_sem] max2_int min2_int max_two min_two max_three min_three max_four min_four   -- for this text's walks alone
set_option linter.unusedVariables false
set_option linter.unusedSimpArgs false



def errW : Option Int → Value
  | none => .nilIface
  | some c => .iface 0 (.int .i64 c)
theorem errW_none : errW none = .nilIface := rfl
theorem errW_some (c : Int) : errW (some c) = .iface 0 (.int .i64 c) := rfl

theorem ownLen (A : Option Addr) (n m c : Nat) : (Value.slice A n c).ownBlock = (Value.slice A m c).ownBlock := by cases A <;> rfl
theorem info5 : (Try.prog.info? 5).map (fun i => (i.zero, i.size, i.bytes)) = some (some (.int .u8 0), 1, 1) := by kernel_rfl
-- the values' own types

end Go.Proofs.Ytkgdmbddenfkpaa.QCrcTells
