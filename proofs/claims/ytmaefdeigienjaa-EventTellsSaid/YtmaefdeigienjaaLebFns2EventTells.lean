/- The printed functions of package leb that lay bytes down and read them come to the plain ones, 'encBytes' and 'decBytes'; for all bytes. -/
import Derived.Test.YtmaefdeigienjaaLebFnsEventTells
namespace Go.Proofs.Ytmaefdeigienjaa.QEventTells
open Go.RowKit Go.Proofs.YtmaefdeigienjaaW.PrintWords Go.Proofs.YtmaefdeigienjaaW.PrintLast Go.Proofs.YtmaefdeigienjaaW.PrintMore
theorem clone_f (l : List Int) (hl : l.length < 140737488355328) : slices_Clone_byte_byte.f l = some l := by
  unfold slices_Clone_byte_byte.f
  rw [Option.bind_some, if_pos (by simpa using hl), List.nil_append]
theorem mx_eq (a : Int) : mx a 0 = max a 0 := by unfold mx; split <;> omega
theorem readBytes_f (k : Nat) (l : List Int) (most : Int) (hl : l.length < 140737488355328) (hb : ∀ x ∈ l, 0 ≤ x ∧ x < 256) (h0 : -9223372036854775808 ≤ most) (h1 : most < 9223372036854775808) (hk : 20 ≤ k) :
    leb_ReadBytes.f k l most = some (Leb.decBytes l most) := by
  unfold leb_ReadBytes.f Leb.decBytes
  rw [read_f k l hb hk, Option.bind_some]
  have hd := Leb.dec_ok l hb
  rcases hd with ⟨d1, d2, d3, d4, d5, d6⟩ | ⟨_, _, d⟩
  · rw [if_pos d1, if_pos d1]
    have e1 : IntKind.u64.wrap (mx most 0) = max most 0 := by rw [mx_eq, Zig.u64w]; omega
    have e2 : IntKind.u64.wrap (wrap64 ((l.length : Int) - (Leb.dec l).2.1)) = l.length - (Leb.dec l).2.1 := by rw [Zig.w64_id _ (by omega) (by omega), Zig.u64w]; omega
    rw [e1, e2]
    by_cases h2 : (Leb.dec l).1 > max most 0
    · rw [if_pos h2, if_pos h2]
    · rw [if_neg h2, if_neg h2]
      by_cases h3 : (Leb.dec l).1 > l.length - (Leb.dec l).2.1
      · rw [if_pos h3, if_pos h3]
      · have e3 : wrap64 ((Leb.dec l).2.1 + wrap64 (Leb.dec l).1) = (Leb.dec l).2.1 + (Leb.dec l).1 := by rw [Zig.w64_id (Leb.dec l).1 (by omega) (by omega), Zig.w64_id _ (by omega) (by omega)]
        rw [if_neg h3, if_neg h3, e3, if_pos (by omega), if_pos (by omega), if_pos (by omega)]
        have e4 : (l.take ((Leb.dec l).2.1 + (Leb.dec l).1).toNat).drop (Leb.dec l).2.1.toNat = (l.drop (Leb.dec l).2.1.toNat).take (Leb.dec l).1.toNat := by
          rw [List.drop_take]; congr 1; omega
        rw [e4, clone_f _ (by rw [List.length_take, List.length_drop]; omega), Option.bind_some]
  · rw [if_neg (by omega), if_neg (by omega)]
theorem putBytes_f (k : Nat) (l : List Int) (hl : l.length < 140737488350000) (hk : 10 ≤ k) : leb_PutBytes.f k l = some (Leb.encBytes l) := by
  unfold leb_PutBytes.f Leb.encBytes
  have e : IntKind.u64.wrap (l.length : Int) = l.length := by rw [Zig.u64w]; omega
  have h10 := Leb.enc_len10 l.length (by omega)
  rw [e, put_f k _ (by omega) (by omega) hk, Option.bind_some, Int.toNat_natCast, if_pos (by omega)]
end Go.Proofs.Ytmaefdeigienjaa.QEventTells
