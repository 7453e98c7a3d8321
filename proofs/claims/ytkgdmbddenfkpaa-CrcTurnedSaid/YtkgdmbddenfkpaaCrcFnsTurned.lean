/- The printed sums come to the plain ones; for every sum and all bytes. -/
import Derived.Test.YtkgdmbddenfkpaaQCrcTurnedx1
import Derived.Test.YtkgdmbddenfkpaaCrcSums
namespace Go.Proofs.Ytkgdmbddenfkpaa.QCrcTurned
open Go.RowKit Go.Proofs.YtkgdmbddenfkpaaW.PrintWords Go.Proofs.YtkgdmbddenfkpaaW.PrintLast Go.Proofs.YtkgdmbddenfkpaaW.PrintMore
theorem more_f (a : Nat) (ha : a < 4294967296) (l : List Int) (hb : ∀ x ∈ l, 0 ≤ x ∧ x < 256) : crc_More.f (a : Int) l = some ((CrcW.moreI a l : Nat) : Int) := by
  unfold crc_More.f
  rw [if_pos ⟨by omega, by omega, hb⟩, Int.toNat_natCast]
theorem sum_f (l : List Int) (hb : ∀ x ∈ l, 0 ≤ x ∧ x < 256) : crc_Sum.f l = some ((CrcW.moreI 0 l : Nat) : Int) := by
  unfold crc_Sum.f
  have := more_f 0 (by decide) l hb
  rw [show ((0 : Nat) : Int) = 0 from rfl] at this
  rw [this, Option.bind_some]
theorem byte_of {l : List Int} (h : ∀ x ∈ l, (Lit.int .u8 x).wf = true) : ∀ x ∈ l, 0 ≤ x ∧ x < 256 := fun x hx => by have := Zig.wf_u8 (h x hx); omega
theorem byte_take {l : List Int} (h : ∀ x ∈ l, 0 ≤ x ∧ x < 256) (j : Nat) : ∀ x ∈ l.take j, 0 ≤ x ∧ x < 256 := fun x hx => h x (List.mem_of_mem_take hx)
theorem byte_drop {l : List Int} (h : ∀ x ∈ l, 0 ≤ x ∧ x < 256) (j : Nat) : ∀ x ∈ l.drop j, 0 ≤ x ∧ x < 256 := fun x hx => h x (List.mem_of_mem_drop hx)
end Go.Proofs.Ytkgdmbddenfkpaa.QCrcTurned
