/- The document's Put comes to the plain one. -/
import Derived.Test.YtmaefdeigienjaaLebFns2EventTells
namespace Go.Proofs.Ytmaefdeigienjaa.QEventTells
open Go.RowKit Go.Proofs.YtmaefdeigienjaaW.PrintWords Go.Proofs.YtmaefdeigienjaaW.PrintLast Go.Proofs.YtmaefdeigienjaaW.PrintMore
theorem rput_l0 (k : Nat) : ∀ (n : Nat) (acc : List Int), n < 18446744073709551616 → (Leb.enc n).length ≤ k → acc.length + (Leb.enc n).length ≤ 140737488355328 →
    repriseref1_Put.l0 k (n : Int) acc = some (acc ++ Leb.enc n) := by
  induction k with
  | zero => intro n acc _ h _; have := Leb.enc_pos n; omega
  | succ k ih =>
    intro n acc hn hk hl
    have hp := Leb.enc_pos n
    simp only [repriseref1_Put.l0]
    by_cases h : n < 128
    · rw [if_neg (by omega), if_pos (by omega), Leb.enc_small n h, show (n : Int) % 256 = n from by omega]
    · rw [Leb.enc_big n h] at hk hl ⊢
      simp only [List.length_cons] at hk hl
      rw [if_pos (by omega), if_pos (by omega), Leb.or128, show (n : Int) / 128 = ((n / 128 : Nat) : Int) from by omega, show (n : Int) % 128 + 128 = ((n % 128 + 128 : Nat) : Int) from by omega,
        ih (n / 128) _ (by omega) (by omega) (by simp only [List.length_append, List.length_cons, List.length_nil]; omega)]
      simp
theorem rput_f (k n : Nat) (hk : 10 ≤ k) (h : n < 18446744073709551616) : repriseref1_Put.f k (n : Int) = some (Leb.enc n) := by
  have h10 := Leb.enc_len10 n h
  have := rput_l0 k n [] h (by omega) (by simp only [List.length_nil]; omega)
  simpa [repriseref1_Put.f] using this
theorem rputBytes_f (k : Nat) (l : List Int) (hl : l.length < 140737488350000) (hk : 10 ≤ k) : repriseref1_PutBytes.f k l = some (Leb.encBytes l) := by
  unfold repriseref1_PutBytes.f Leb.encBytes
  have e : IntKind.u64.wrap (l.length : Int) = ((l.length : Nat) : Int) := by rw [Zig.u64w]; omega
  have h10 := Leb.enc_len10 l.length (by omega)
  rw [e, rput_f k _ hk (by omega), Option.bind_some, if_pos (by omega)]
end Go.Proofs.Ytmaefdeigienjaa.QEventTells
