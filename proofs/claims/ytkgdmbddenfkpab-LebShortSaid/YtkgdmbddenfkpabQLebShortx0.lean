/- Lean functions for the Go functions that the law reaches, and proofs that each call comes to just what its Lean function tells; no condition. (Written by a program of this session.) -/
import Derived.Test.YtkgdmbddenfkpabProg
import Derived.Lib.LazyBuf
import Derived.Below
import Derived.Deep.Draws
import Derived.Deep.AppendLies
import Derived.Maps.AppendAt
import Derived.OwnWalk
import Derived.Laws.BytesArg
import Derived.Laws.MakeOwn
import Derived.Laws.OwnMore
import Derived.Deep.OwnRows
import Derived.Tactics
import Derived.Lib.ConvBytes
import Derived.Laws.Slices
import Derived.WalkKit
import Derived.KernelRfl
import Derived.RowKit3
import Derived.Deep.LoopGhost
import Derived.Deep.QuietTactic
import Derived.BigQuiet
import Derived.WideLaws
import Derived.Deep.DeepCutAuto
import Derived.Deep.CutBlock
import Derived.Deep.RegionHeld3
import Derived.Laws.Rows
import Derived.Lib.AppendStr
import Derived.ArgAppend
import Derived.Laws.IdiomCopy
import Derived.OrdersHeld
import Derived.Laws.BitsLemmas
import Derived.RowKit
import Derived.Test.YtkgdmbddenfkpabWWords
import Derived.Test.YtkgdmbddenfkpabWLast
import Derived.Test.YtkgdmbddenfkpabWTab
import Derived.Test.YtkgdmbddenfkpabWFour
import Derived.Test.YtkgdmbddenfkpabWQPut
import Derived.Test.YtkgdmbddenfkpabWApart
import Derived.Test.YtkgdmbddenfkpabWArr
import Derived.Test.YtkgdmbddenfkpabWZeros
import Derived.Test.YtkgdmbddenfkpabWFoot
import Derived.Test.YtkgdmbddenfkpabWKept
import Derived.Test.YtkgdmbddenfkpabWShare
import Derived.Test.YtkgdmbddenfkpabWN
import Derived.Test.YtkgdmbddenfkpabWFootNe
import Derived.Test.YtkgdmbddenfkpabWAt
import Derived.Test.YtkgdmbddenfkpabWEqStruct
import Derived.Test.YtkgdmbddenfkpabWRepsOne
import Derived.Test.YtkgdmbddenfkpabWInv
import Derived.Test.YtkgdmbddenfkpabWInvWords
import Derived.Test.YtkgdmbddenfkpabWGuard
import Derived.Test.YtkgdmbddenfkpabWNEv
import Derived.Test.YtkgdmbddenfkpabWMore
namespace Go.Proofs.Ytkgdmbddenfkpab.QLebShort
open Go.RowKit Go.Proofs.YtkgdmbddenfkpabW.PrintWords Go.Proofs.YtkgdmbddenfkpabW.PrintLast Go.Proofs.YtkgdmbddenfkpabW.PrintMore
attribute [local go_sem] max2_int min2_int max_two min_two max_three min_three max_four min_four   -- for this text's walks alone
set_option linter.unusedVariables false
set_option linter.unusedSimpArgs false



def errW : Option Int → Value
  | none => .nilIface
  | some c => .iface 0 (.int .i64 c)
theorem errW_none : errW none = .nilIface := rfl
theorem errW_some (c : Int) : errW (some c) = .iface 0 (.int .i64 c) := rfl

theorem ownLen (A : Option Addr) (n m c : Nat) : (Value.slice A n c).ownBlock = (Value.slice A m c).ownBlock := by cases A <;> rfl
theorem info5 : (Try.prog.info? 5).map (fun i => (i.zero, i.size, i.bytes)) = some (some (.int .u8 0), 1, 1) := by kernel_rfl
theorem info22 : (Try.prog.info? 22).map (fun i => (i.zero, i.size, i.bytes)) = some (some (.int .u64 0), 1, 8) := by kernel_rfl
-- the values' own types

end Go.Proofs.Ytkgdmbddenfkpab.QLebShort
