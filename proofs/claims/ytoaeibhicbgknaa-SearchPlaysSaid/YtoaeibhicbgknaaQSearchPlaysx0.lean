/- Lean functions for the Go functions that the law reaches, and proofs that each call comes to just what its Lean function tells; no condition. (Written by a program of this session.) -/
import Derived.Test.YtoaeibhicbgknaaProg
import Derived.Lib.LazyBuf
import Derived.Below
import Derived.Deep.Draws
import Derived.Deep.AppendLies
import Derived.Maps.AppendAt
import Derived.OwnWalk
import Derived.Laws.BytesArg
import Derived.Laws.MakeOwn
import Derived.Laws.OwnMore
import Derived.Deep.OwnRows
import Derived.Tactics
import Derived.Lib.ConvBytes
import Derived.Laws.Slices
import Derived.WalkKit
import Derived.KernelRfl
import Derived.RowKit3
import Derived.Deep.LoopGhost
import Derived.Deep.QuietTactic
import Derived.BigQuiet
import Derived.WideLaws
import Derived.Deep.DeepCutAuto
import Derived.Deep.CutBlock
import Derived.Deep.RegionHeld3
import Derived.Laws.Rows
import Derived.Lib.AppendStr
import Derived.ArgAppend
import Derived.Laws.IdiomCopy
import Derived.OrdersHeld
import Derived.Laws.BitsLemmas
import Derived.RowKit
import Derived.Test.YtoaeibhicbgknaaRunes
import Derived.Test.YtoaeibhicbgknaaShelf
import Derived.Test.YtoaeibhicbgknaaWWords
import Derived.Test.YtoaeibhicbgknaaWLast
import Derived.Test.YtoaeibhicbgknaaWTab
import Derived.Test.YtoaeibhicbgknaaWFour
import Derived.Test.YtoaeibhicbgknaaWQPut
import Derived.Test.YtoaeibhicbgknaaWApart
import Derived.Test.YtoaeibhicbgknaaWArr
import Derived.Test.YtoaeibhicbgknaaWZeros
import Derived.Test.YtoaeibhicbgknaaWFoot
import Derived.Test.YtoaeibhicbgknaaWKept
import Derived.Test.YtoaeibhicbgknaaWShare
import Derived.Test.YtoaeibhicbgknaaWN
import Derived.Test.YtoaeibhicbgknaaWFootNe
import Derived.Test.YtoaeibhicbgknaaWAt
import Derived.Test.YtoaeibhicbgknaaWEqStruct
import Derived.Test.YtoaeibhicbgknaaWRepsOne
import Derived.Test.YtoaeibhicbgknaaWInv
import Derived.Test.YtoaeibhicbgknaaWInvWords
import Derived.Test.YtoaeibhicbgknaaWGuard
import Derived.Test.YtoaeibhicbgknaaWNEv
import Derived.Test.YtoaeibhicbgknaaWMore
namespace Go.Proofs.Ytoaeibhicbgknaa.QSearchPlays
open Go.RowKit Go.Proofs.YtoaeibhicbgknaaW.PrintWords Go.Proofs.YtoaeibhicbgknaaW.PrintLast Go.Proofs.YtoaeibhicbgknaaW.PrintMore
attribute [local go_sem] max2_int min2_int max_two min_two max_three min_three max_four min_four   -- for this text's walks alone
set_option linter.unusedVariables false
set_option linter.unusedSimpArgs false



def errW : Option Int → Value
  | none => .nilIface
  | some c => .iface 0 (.int .i64 c)
theorem errW_none : errW none = .nilIface := rfl
theorem errW_some (c : Int) : errW (some c) = .iface 0 (.int .i64 c) := rfl

theorem ownLen (A : Option Addr) (n m c : Nat) : (Value.slice A n c).ownBlock = (Value.slice A m c).ownBlock := by cases A <;> rfl
theorem info5 : (Try.prog.info? 5).map (fun i => (i.zero, i.size, i.bytes)) = some (some (.int .u8 0), 1, 1) := by kernel_rfl
theorem info9 : (Try.prog.info? 9).map (fun i => (i.zero, i.size, i.bytes)) = some (some (.string ⟨#[]⟩), 1, 16) := by kernel_rfl
theorem info21 : (Try.prog.info? 21).map (fun i => (i.zero, i.size, i.bytes)) = some (some (.int .i32 0), 1, 4) := by kernel_rfl
-- the values' own types

end Go.Proofs.Ytoaeibhicbgknaa.QSearchPlays
