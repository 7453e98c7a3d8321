/- CrcTells: each sum, each row of the table, each four bytes is the document's; for all bytes, every sum and row. -/
import Derived.Test.YtkgdmbddenfkpaaQCrcTellsx1
import Derived.Test.YtkgdmbddenfkpaaCrcSums
namespace Go.Proofs.Ytkgdmbddenfkpaa.Pure
open Go.RowKit Go.Proofs.Ytkgdmbddenfkpaa.QCrcTells Go.Proofs.YtkgdmbddenfkpaaW.PrintWords Go.Proofs.YtkgdmbddenfkpaaW.PrintLast Go.Proofs.YtkgdmbddenfkpaaW.PrintMore
theorem row_l0 (c : Nat) (hc : c < 4294967296) (d : Nat) : ∀ (i k : Nat), i + d = 8 → d < k → repriseref1_Row.l0 k ((CrcW.stn i c : Nat) : Int) (i : Int) = some ((CrcM.F c : Nat) : Int) := by
  induction d with
  | zero =>
    intro i k hi hk
    obtain ⟨k, rfl⟩ : ∃ m, k = m + 1 := ⟨k - 1, by omega⟩
    obtain rfl : i = 8 := by omega
    rw [repriseref1_Row.l0, if_neg (by omega)]; rfl
  | succ d ih =>
    intro i k hi hk
    obtain ⟨k, rfl⟩ : ∃ m, k = m + 1 := ⟨k - 1, by omega⟩
    have hb := CrcW.stn_lt i c hc
    have hn := ih (i + 1) k (by omega) (by omega)
    rw [show CrcW.stn (i + 1) c = CrcM.st (CrcW.stn i c) from rfl] at hn
    generalize CrcW.stn i c = x at *
    rw [repriseref1_Row.l0, if_pos (by omega), CrcW.and1 x hb, Zig.w64_id _ (by omega) (by omega), show (i : Int) + 1 = ((i + 1 : Nat) : Int) from by omega, show (x : Int) / 2 = ((x / 2 : Nat) : Int) from by omega]
    by_cases h : x % 2 = 1
    · rw [if_pos (by omega), CrcW.xorp (x / 2) (by omega)]
      have : CrcM.st x = x / 2 ^^^ 3988292384 := by unfold CrcM.st; rw [if_pos h]
      rw [this] at hn; exact hn
    · rw [if_neg (by omega)]
      have : CrcM.st x = x / 2 := by unfold CrcM.st; rw [if_neg h]
      rw [this] at hn; exact hn
theorem row_f (k : Nat) (hk : 9 ≤ k) (c : Nat) (hc : c < 4294967296) : repriseref1_Row.f k (c : Int) = some ((CrcM.F c : Nat) : Int) := by
  unfold repriseref1_Row.f
  rw [show (c : Int) % 4294967296 = (c : Int) from by omega]
  exact row_l0 c hc 8 0 k (by omega) (by omega)
theorem refmore_l0 (l : List Int) (hl : l.length < 4611686018427387904) (hb : ∀ x ∈ l, 0 ≤ x ∧ x < 256) (c : Nat) (hc : c < 4294967296) (d : Nat) : ∀ (i k : Nat), i + d = l.length → d + 9 < k →
    repriseref1_More.l0 k ((CrcM.run c (CrcW.nb (l.take i)) : Nat) : Int) l (i : Int) = some ((4294967295 ^^^ CrcM.run c (CrcW.nb l) : Nat) : Int) := by
  induction d with
  | zero =>
    intro i k hi hk
    obtain ⟨k, rfl⟩ : ∃ m, k = m + 1 := ⟨k - 1, by omega⟩
    obtain rfl : i = l.length := by omega
    rw [repriseref1_More.l0, if_neg (by omega), List.take_length, show (4294967295 : Int) = ((4294967295 : Nat) : Int) from rfl, u32_xor_nat _ _ (by decide) (CrcW.run_lt c hc l hb)]
  | succ d ih =>
    intro i k hi hk
    obtain ⟨k, rfl⟩ : ∃ m, k = m + 1 := ⟨k - 1, by omega⟩
    obtain ⟨x, hx, hrd, htk⟩ := CrcW.byteN l hb i (by omega)
    have hrl := CrcW.run_lt c hc (l.take i) (fun y hy => hb y (List.mem_of_mem_take hy))
    have hn := ih (i + 1) k (by omega) (by omega)
    rw [htk, CrcM.run_app, show CrcM.run (CrcM.run c (CrcW.nb (l.take i))) [x] = CrcM.F (CrcM.run c (CrcW.nb (l.take i)) ^^^ x) from rfl, ← CrcW.upd _ x hx] at hn
    generalize CrcM.run c (CrcW.nb (l.take i)) = q at *
    have hidx : q % 256 ^^^ x < 256 := Nat.xor_lt_two_pow (n := 8) (by omega) hx
    rw [repriseref1_More.l0, if_pos (by omega), if_pos (by omega), hrd, show (q : Int) % 256 = ((q % 256 : Nat) : Int) from by omega, u8_xor_nat (q % 256) x (by omega) hx, Zig.w64_id ((q % 256 ^^^ x : Nat) : Int) (by omega) (by omega),
      row_f k (by omega) _ (by omega), Option.bind_some, show (q : Int) / 256 = ((q / 256 : Nat) : Int) from by omega, u32_xor_nat _ (q / 256) (CrcM.F_lt _ (by omega)) (by omega), Zig.w64_id ((i : Int) + 1) (by omega) (by omega),
      show (i : Int) + 1 = ((i + 1 : Nat) : Int) from by omega]
    exact hn
theorem refmore_f (k : Nat) (a : Nat) (ha : a < 4294967296) (l : List Int) (hl : l.length < 4611686018427387904) (hb : ∀ x ∈ l, 0 ≤ x ∧ x < 256) (hk : l.length + 9 < k) :
    repriseref1_More.f k (a : Int) l = some ((CrcW.moreI a l : Nat) : Int) := by
  unfold repriseref1_More.f
  rw [show (4294967295 : Int) = ((4294967295 : Nat) : Int) from rfl, u32_xor_nat _ a (by decide) ha]
  exact refmore_l0 l hl hb _ (Nat.xor_lt_two_pow (n := 32) (by decide) ha) l.length 0 k (by omega) hk
theorem CrcTells : repriselaw2_CrcTells.Pure := by
  intro l0 a1 a2 _ hl hw h1 h2
  have hb : ∀ x ∈ l0, 0 ≤ x ∧ x < 256 := fun x hx => by have := Zig.wf_u8 (hw x hx); omega
  have b1 := Zig.wf_u32 h1
  have b2 := Zig.wf_u8 h2
  refine ⟨l0.length + 10, ?_⟩
  unfold repriselaw2_CrcTells.f
  by_cases h : (l0.length : Int) > 300
  · rw [if_pos h]
  · rw [if_neg h, if_pos]
    refine ⟨⟨b1.1, by omega⟩, ⟨b2.1, by omega⟩, hb, ?_, ?_, ?_⟩
    · unfold repriseref1_Sum.f
      have := refmore_f (l0.length + 10) 0 (by decide) l0 (by omega) hb (by omega)
      rw [show ((0 : Nat) : Int) = 0 from rfl] at this
      rw [this, Option.bind_some]
    · have := refmore_f (l0.length + 10) a1.toNat (by omega) l0 (by omega) hb (by omega)
      rw [show ((a1.toNat : Nat) : Int) = a1 from by omega] at this
      exact this
    · have := row_f (l0.length + 10) (by omega) a2.toNat (by omega)
      rw [show ((a2.toNat : Nat) : Int) = a2 from by omega] at this
      rw [Zig.w64_id a2 (by omega) (by omega)]
      exact this
end Go.Proofs.Ytkgdmbddenfkpaa.Pure
