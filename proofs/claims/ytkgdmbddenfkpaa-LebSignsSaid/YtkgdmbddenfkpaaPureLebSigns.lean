/- LebSigns: numbers near 0 are small ones, of whatever sign, and each its own; for every pair of int64. -/
import Derived.Test.YtkgdmbddenfkpaaQLebSignsx1
import Derived.Test.YtkgdmbddenfkpaaZigMath
import Derived.Test.YtkgdmbddenfkpaaLebMath
namespace Go.Proofs.Ytkgdmbddenfkpaa.Pure
open Go.RowKit Go.Proofs.Ytkgdmbddenfkpaa.QLebSigns Go.Proofs.YtkgdmbddenfkpaaW.PrintWords Go.Proofs.YtkgdmbddenfkpaaW.PrintLast
theorem signs_known : repriselaw1_known.f 30 = some true := by
  unfold repriselaw1_known.f
  simp only [Lib.strOfNums_toList]
  decide +kernel
theorem LebSigns : repriselaw1_LebSigns.Pure := by
  intro a0 a1 h0 h1
  have b0 := Zig.wf_i64 h0
  have b1 := Zig.wf_i64 h1
  refine ⟨30, ?_⟩
  unfold repriselaw1_LebSigns.f
  rw [signs_known]
  rw [Option.bind_some, if_pos rfl]
  unfold leb_Zig.f leb_Zag.f
  rw [Option.bind_some, Option.bind_some]
  rw [Zig.zig a0 b0.1 b0.2, Zig.zig a1 b1.1 b1.2]
  have e : ((if a0 < 0 then -2 * a0 - 1 else 2 * a0) == (if a1 < 0 then -2 * a1 - 1 else 2 * a1)) = (a0 == a1) := by
    rw [Bool.eq_iff_iff, beq_iff_eq, beq_iff_eq]; split <;> split <;> omega
  rw [e]
  rw [if_pos (by simp), Option.bind_some]
  rw [Zig.zag _ (by split <;> omega) (by split <;> omega), Zig.u64w, Zig.u64w]
  by_cases h : a0 < 0
  · simp only [if_pos h]
    have z : (if (-2 * a0 - 1) % 2 = 0 then (-2 * a0 - 1) / 2 else -((-2 * a0 - 1) / 2) - 1) = a0 := by split <;> omega
    have t : Int.tmod (-2 * a0 - 1) 2 = a0 % 18446744073709551616 / 9223372036854775808 := by rw [Int.tmod_eq_emod_of_nonneg (by omega)]; omega
    rw [if_pos z, if_pos t]
  · simp only [if_neg h]
    have z : (if (2 * a0) % 2 = 0 then (2 * a0) / 2 else -((2 * a0) / 2) - 1) = a0 := by split <;> omega
    have t : Int.tmod (2 * a0) 2 = a0 % 18446744073709551616 / 9223372036854775808 := by rw [Int.tmod_eq_emod_of_nonneg (by omega)]; omega
    rw [if_pos z, if_pos t]
    simp only [Option.some.injEq, beq_iff_eq]; omega
end Go.Proofs.Ytkgdmbddenfkpaa.Pure
