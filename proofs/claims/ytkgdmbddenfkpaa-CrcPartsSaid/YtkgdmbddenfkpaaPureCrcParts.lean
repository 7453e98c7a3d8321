/- CrcParts: a sum goes on, however bytes are parted; for all bytes and every cut. -/
import Derived.Test.YtkgdmbddenfkpaaCrcFnsParts
namespace Go.Proofs.Ytkgdmbddenfkpaa.Pure
open Go.RowKit Go.Proofs.Ytkgdmbddenfkpaa.QCrcParts Go.Proofs.YtkgdmbddenfkpaaW.PrintWords Go.Proofs.YtkgdmbddenfkpaaW.PrintLast
theorem CrcParts : repriselaw2_CrcParts.Pure := by
  intro l0 a1 _ hl hw h1
  have hb := byte_of hw
  have b1 := Zig.wf_u16 h1
  unfold repriselaw2_CrcParts.f repriselaw2_known.f
  rw [Option.bind_some, if_pos rfl]
  by_cases h : (l0.length : Int) > 300
  · rw [if_pos h]
  · rw [if_neg h, Zig.w64_id a1 (by omega) (by omega), Zig.w64_id ((l0.length : Int) + 1) (by omega) (by omega), if_neg (by omega), Int.tmod_eq_emod_of_nonneg b1.1]
    have q0 := Int.emod_nonneg a1 (b := (l0.length : Int) + 1) (by omega)
    have q1 := Int.emod_lt_of_pos a1 (b := (l0.length : Int) + 1) (by omega)
    obtain ⟨n, hn⟩ := Int.eq_ofNat_of_zero_le q0
    rw [hn] at q1 ⊢
    have e0 := CrcW.more_lt 0 (by decide) (l0.take n) (byte_take hb n)
    have e1 := CrcW.more_lt 0 (by decide) l0 hb
    rw [if_pos (by omega), if_pos (by omega), Int.toNat_natCast, sum_f _ (byte_take hb n), Option.bind_some, more_f _ e0 _ (byte_drop hb n), Option.bind_some, sum_f _ hb, Option.bind_some,
      CrcW.more_more, List.take_append_drop, if_pos rfl, Option.bind_some, more_f _ e1 [] (by simp), Option.bind_some, CrcW.more_nil]
    simp
end Go.Proofs.Ytkgdmbddenfkpaa.Pure
