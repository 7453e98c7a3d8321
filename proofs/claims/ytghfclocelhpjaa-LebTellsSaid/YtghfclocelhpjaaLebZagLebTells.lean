/- The document's Zig and Zag. -/
import Derived.Test.YtghfclocelhpjaaLebRefLebTells
namespace Go.Proofs.Ytghfclocelhpjaa.QLebTells
open Go.RowKit Go.Proofs.YtghfclocelhpjaaW.PrintWords Go.Proofs.YtghfclocelhpjaaW.PrintLast Go.Proofs.YtghfclocelhpjaaW.PrintMore
theorem rzag (n : Int) (h1 : 0 ≤ n) (h2 : n ≤ 18446744073709551615) : repriseref1_Zag.f n = some (if n % 2 = 0 then n / 2 else -(n / 2) - 1) := by
  unfold repriseref1_Zag.f
  have e1 : Int.tmod n 2 = n % 2 := Int.tmod_eq_emod_of_nonneg h1
  have e2 : Int.tdiv n 2 = n / 2 := Int.tdiv_eq_ediv_of_nonneg h1
  have e3 : IntKind.u64.wrap (n / 2) = n / 2 := by rw [Zig.u64w]; omega
  have e4 : wrap64 (n / 2) = n / 2 := Zig.w64_id _ (by omega) (by omega)
  have e5 : wrap64 (-(n / 2)) = -(n / 2) := Zig.w64_id _ (by omega) (by omega)
  have e6 : wrap64 (-(n / 2) - 1) = -(n / 2) - 1 := Zig.w64_id _ (by omega) (by omega)
  rw [e1, e2, e3, e4, e5, e6]
  by_cases h : n % 2 = 1
  · rw [if_pos h, if_neg (by omega)]
  · rw [if_neg h, if_pos (by omega)]
theorem rzig (a : Int) (h1 : -9223372036854775808 ≤ a) (h2 : a ≤ 9223372036854775807) : repriseref1_Zig.f a = some (if a < 0 then -2 * a - 1 else 2 * a) := by
  unfold repriseref1_Zig.f
  by_cases h : a < 0
  · have e1 : wrap64 (a + 1) = a + 1 := Zig.w64_id _ (by omega) (by omega)
    have e2 : wrap64 (-(a + 1)) = -(a + 1) := Zig.w64_id _ (by omega) (by omega)
    have e3 : IntKind.u64.wrap (-(a + 1)) = -(a + 1) := by rw [Zig.u64w]; omega
    have e4 : IntKind.u64.wrap (2 * -(a + 1)) = 2 * -(a + 1) := by rw [Zig.u64w]; omega
    have e5 : IntKind.u64.wrap (2 * -(a + 1) + 1) = 2 * -(a + 1) + 1 := by rw [Zig.u64w]; omega
    rw [if_pos h, if_pos h, e1, e2, e3, e4, e5]
    congr 1
    omega
  · have e1 : IntKind.u64.wrap a = a := by rw [Zig.u64w]; omega
    have e2 : IntKind.u64.wrap (2 * a) = 2 * a := by rw [Zig.u64w]; omega
    rw [if_neg h, if_neg h, e1, e2]
end Go.Proofs.Ytghfclocelhpjaa.QLebTells
