/- LebBack: numbers, and bytes, come back, whatever stands behind them; for every number and all bytes. -/
import Derived.Test.YtkgdmbddenfkpabLebFns2LebBack
import Derived.Test.YtkgdmbddenfkpabQLebBackx2
namespace Go.Proofs.Ytkgdmbddenfkpab.Pure
open Go.RowKit Go.Proofs.Ytkgdmbddenfkpab.QLebBack Go.Proofs.YtkgdmbddenfkpabW.PrintWords Go.Proofs.YtkgdmbddenfkpabW.PrintLast
theorem back_known : repriselaw1_known.f 30 = some true := by
  unfold repriselaw1_known.f
  simp only [Lib.strOfNums_toList]
  decide +kernel
theorem edge_f (n k : Int) (h0 : 0 ≤ n) (h : n ≤ 18446744073709551615) (hk0 : 0 ≤ k) (hk : k ≤ 255) : ∃ r, repriselaw1_edge.f n k = some r ∧ 0 ≤ r ∧ r ≤ 18446744073709551615 := by
  unfold repriselaw1_edge.f
  simp only [Option.bind_some, List.length_cons, List.length_nil]
  rw [Zig.w64_id k (by omega) (by omega), Int.tmod_eq_emod_of_nonneg hk0]
  have hm : 0 ≤ k % 13 ∧ k % 13 < 13 := by omega
  rw [if_neg (by decide), if_pos (by omega), if_pos (by omega)]
  refine ⟨_, rfl, ?_⟩
  have : ∀ i : Nat, i < 13 → 0 ≤ rd [n, n / 4294967296, n / 1125899906842624, n / 144115188075855872, 0, 127, 128, 16383, 16384, 9223372036854775807, 9223372036854775808, 18446744073709551615, 34359738368] (i : Int) ∧ rd [n, n / 4294967296, n / 1125899906842624, n / 144115188075855872, 0, 127, 128, 16383, 16384, 9223372036854775807, 9223372036854775808, 18446744073709551615, 34359738368] (i : Int) ≤ 18446744073709551615 := by
    intro i hi
    rcases i with _ | _ | _ | _ | _ | _ | _ | _ | _ | _ | _ | _ | _ | i
    all_goals first | omega | (simp [rd]; omega) | simp [rd]
  have h2 := this (k % 13).toNat (by omega)
  rw [show (((k % 13).toNat : Nat) : Int) = k % 13 from by omega] at h2
  exact h2
theorem byte_of {l : List Int} (h : ∀ x ∈ l, (Lit.int .u8 x).wf = true) : ∀ x ∈ l, 0 ≤ x ∧ x < 256 := fun x hx => by have := Zig.wf_u8 (h x hx); omega
theorem byte_app {a b : List Int} (ha : ∀ x ∈ a, 0 ≤ x ∧ x < 256) (hb : ∀ x ∈ b, 0 ≤ x ∧ x < 256) : ∀ x ∈ a ++ b, 0 ≤ x ∧ x < 256 := fun x hx => (List.mem_append.1 hx).elim (ha x) (hb x)
theorem LebBack : repriselaw1_LebBack.Pure := by
  intro a0 a1 l2 l3 h0 h1 _ hl2 hw2 _ hl3 hw3
  have b0 := Zig.wf_u64 h0
  have b1 := Zig.wf_u8 h1
  have c2 := byte_of hw2
  have c3 := byte_of hw3
  refine ⟨31, ?_⟩
  have hk : repriselaw1_known.f 31 = some true := at_rounds (g := fun k => repriselaw1_known.f k) (fun k => repriselaw1_known.mono k) (by decide : 30 ≤ 31) back_known
  unfold repriselaw1_LebBack.f
  rw [hk, Option.bind_some, if_pos rfl]
  have key : ∀ b : Bool, (b = false → l2.length ≤ 60 ∧ l3.length ≤ 20) → repriselaw1_LebBack.j0 31 a0 a1 l2 l3 b = some true := by
    intro b hb
    rw [repriselaw1_LebBack.j0]
    cases b with
    | true => rw [if_pos rfl]
    | false =>
      obtain ⟨g2, g3⟩ := hb rfl
      rw [if_neg (by decide)]
      obtain ⟨x, hx, x0, x1⟩ := edge_f a0 a1 b0.1 b0.2 b1.1 b1.2
      have e10 := Leb.enc_len10 x.toNat (by omega)
      have ep := Leb.enc_pos x.toNat
      have be := Leb.enc_byte x.toNat
      have eb10 := Leb.enc_len10 l2.length (by omega)
      have hB : ∀ y ∈ Leb.encBytes l2, 0 ≤ y ∧ y < 256 := byte_app (Leb.enc_byte _) c2
      have hBl : (Leb.encBytes l2).length ≤ 70 := by unfold Leb.encBytes; rw [List.length_append]; omega
      rw [hx, Option.bind_some, put_f 30 x x0 x1 (by decide), Option.bind_some, if_pos (by omega), read_f 30 _ (byte_app be c3) (by decide), Option.bind_some, Leb.dec_enc x.toNat l3 (by omega),
        putBytes_f 30 l2 (by omega) (by decide), Option.bind_some, if_pos (by omega), readBytes_f 30 _ _ (by rw [List.length_append]; omega) (byte_app hB c3) (by omega) (by omega) (by decide), Option.bind_some,
        Leb.decBytes_enc l2 l3 _ (by omega), if_neg (by omega), Option.bind_some, Zig.w64_id ((l2.length : Int) - 1) (by omega) (by omega), readBytes_f 30 _ _ (by omega) hB (by omega) (by omega) (by decide), Option.bind_some]
      have e := Leb.decBytes_enc l2 [] ((l2.length : Int) - 1) (by omega)
      rw [List.append_nil] at e
      rw [e]
      simp only []
      rw [if_pos (by omega), if_pos trivial, Option.bind_some, if_pos rfl, if_pos trivial, if_pos trivial, Option.bind_some, if_pos rfl]
      by_cases hz : l2.length = 0
      · rw [if_neg (show ¬ ((l2.length : Int) > max ((l2.length : Int) - 1) 0) by omega), if_neg (show ¬ ((0 : Int) = 25) by decide), hz]; rfl
      · rw [if_pos (show (l2.length : Int) > max ((l2.length : Int) - 1) 0 by omega), if_pos rfl]
  by_cases h60 : (l2.length : Int) > 60
  · rw [if_pos h60]; exact key true (by simp)
  · rw [if_neg h60]; exact key _ (by intro h; have := of_decide_eq_false h; omega)
end Go.Proofs.Ytkgdmbddenfkpab.Pure
