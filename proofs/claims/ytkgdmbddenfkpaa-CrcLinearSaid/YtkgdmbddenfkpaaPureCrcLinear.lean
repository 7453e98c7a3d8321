/- CrcLinear: sums of three texts of one length are that of all three together; for all bytes. -/
import Derived.Test.YtkgdmbddenfkpaaCrcFnsLinear
import Derived.Test.YtkgdmbddenfkpaaQCrcLinearx2
namespace Go.Proofs.Ytkgdmbddenfkpaa.Pure
open Go.RowKit Go.Proofs.Ytkgdmbddenfkpaa.QCrcLinear Go.Proofs.YtkgdmbddenfkpaaW.PrintWords Go.Proofs.YtkgdmbddenfkpaaW.PrintLast Go.Proofs.YtkgdmbddenfkpaaW.PrintMore
/-- the byte at a place of all three together -/
def at3 (a b c : List Int) (i : Nat) : Int := (((a.getD i 0).toNat ^^^ (b.getD i 0).toNat ^^^ (c.getD i 0).toNat : Nat) : Int)
theorem get_byte (l : List Int) (hb : ∀ x ∈ l, 0 ≤ x ∧ x < 256) (i : Nat) : 0 ≤ l.getD i 0 ∧ l.getD i 0 < 256 := by
  rw [List.getD_eq_getElem?_getD]
  rcases Nat.lt_or_ge i l.length with h | h
  · rw [List.getElem?_eq_getElem h]; exact hb _ (List.getElem_mem h)
  · rw [List.getElem?_eq_none h]; exact ⟨by decide, by decide⟩
theorem at3_byte (a b c : List Int) (ha : ∀ x ∈ a, 0 ≤ x ∧ x < 256) (hb : ∀ x ∈ b, 0 ≤ x ∧ x < 256) (hc : ∀ x ∈ c, 0 ≤ x ∧ x < 256) (i : Nat) :
    Go.bits .xor .u8 (Go.bits .xor .u8 (rd a (i : Int)) (rd b (i : Int))) (rd c (i : Int)) = at3 a b c i ∧ 0 ≤ at3 a b c i ∧ at3 a b c i < 256 := by
  have h1 := get_byte a ha i
  have h2 := get_byte b hb i
  have h3 := get_byte c hc i
  have e1 : (a.getD i 0).toNat ^^^ (b.getD i 0).toNat < 256 := Nat.xor_lt_two_pow (n := 8) (by omega) (by omega)
  have e2 : (a.getD i 0).toNat ^^^ (b.getD i 0).toNat ^^^ (c.getD i 0).toNat < 256 := Nat.xor_lt_two_pow (n := 8) e1 (by omega)
  refine ⟨?_, by unfold at3; omega, by unfold at3; omega⟩
  unfold rd at3
  rw [Int.toNat_natCast, u8_xor _ _ h1.1 h1.2 h2.1 h2.2, u8_xor _ _ (by omega) (by omega) h3.1 h3.2, Int.toNat_natCast]
theorem set_next (f : Nat → Int) (i n : Nat) (hi : i < n) : ((List.range i).map f ++ List.replicate (n - i) 0).set i (f i) = (List.range (i + 1)).map f ++ List.replicate (n - (i + 1)) 0 := by
  have : ((List.range i).map f).length = i := by simp
  rw [List.set_append_right _ _ (by omega), this, Nat.sub_self, show n - i = (n - (i + 1)) + 1 from by omega, List.replicate_succ, List.set_cons_zero, List.range_succ, List.map_append]
  simp
theorem linear_l0 (a b c : List Int) (ha : ∀ x ∈ a, 0 ≤ x ∧ x < 256) (hb : ∀ x ∈ b, 0 ≤ x ∧ x < 256) (hc : ∀ x ∈ c, 0 ≤ x ∧ x < 256) (n : Nat) (hn : n ≤ 200) (na : n ≤ a.length) (nb : n ≤ b.length) (nc : n ≤ c.length) (d : Nat) :
    ∀ (i k : Nat), i + d = n → d < k → repriselaw2_CrcLinear.l0 k a b c (n : Int) ((List.range i).map (at3 a b c) ++ List.replicate (n - i) 0) (i : Int) = some true := by
  induction d with
  | zero =>
    intro i k hi hk
    obtain ⟨k, rfl⟩ : ∃ m, k = m + 1 := ⟨k - 1, by omega⟩
    obtain rfl : i = n := by omega
    have hB : ∀ x ∈ (List.range i).map (at3 a b c), 0 ≤ x ∧ x < 256 := by
      intro x hx
      obtain ⟨j, _, rfl⟩ := List.mem_map.1 hx
      exact (at3_byte a b c ha hb hc j).2
    have la := CrcW.more_lt 0 (by decide) (a.take i) (byte_take ha i)
    have lb := CrcW.more_lt 0 (by decide) (b.take i) (byte_take hb i)
    have lc := CrcW.more_lt 0 (by decide) (c.take i) (byte_take hc i)
    rw [repriselaw2_CrcLinear.l0, if_neg (by omega), Nat.sub_self, List.replicate_zero, List.append_nil, sum_f _ hB, Option.bind_some, if_pos (by omega), if_pos (by omega), Int.toNat_natCast,
      sum_f _ (byte_take ha i), Option.bind_some, if_pos (by omega), sum_f _ (byte_take hb i), Option.bind_some, if_pos (by omega), sum_f _ (byte_take hc i), Option.bind_some,
      CrcW.sum3 i a b c na nb nc (at3 a b c) (fun _ _ => rfl), u32_xor_nat _ _ la lb, u32_xor_nat _ _ (Nat.xor_lt_two_pow (n := 32) la lb) lc]
    simp
  | succ d ih =>
    intro i k hi hk
    obtain ⟨k, rfl⟩ : ∃ m, k = m + 1 := ⟨k - 1, by omega⟩
    have hl : ((List.range i).map (at3 a b c) ++ List.replicate (n - i) 0).length = n := by simp; omega
    rw [repriselaw2_CrcLinear.l0, if_pos (by omega), if_pos (by omega), if_pos (by omega), if_pos (by omega), if_pos (by omega), if_pos (by omega), (at3_byte a b c ha hb hc i).1, Int.toNat_natCast,
      set_next _ i n (by omega), Zig.w64_id _ (by omega) (by omega), show (i : Int) + 1 = ((i + 1 : Nat) : Int) from by omega]
    exact ih (i + 1) k (by omega) (by omega)
theorem CrcLinear : repriselaw2_CrcLinear.Pure := by
  intro l0 l1 l2 _ _ w0 _ _ w1 _ _ w2
  have b0 := byte_of w0
  have b1 := byte_of w1
  have b2 := byte_of w2
  refine ⟨202, ?_⟩
  unfold repriselaw2_CrcLinear.f repriselaw2_known.f
  rw [Option.bind_some, if_pos rfl]
  obtain ⟨n, hn, g0, g1, g2⟩ : ∃ n : Nat, mn (l0.length : Int) (mn (l1.length : Int) (l2.length : Int)) = (n : Int) ∧ n ≤ l0.length ∧ n ≤ l1.length ∧ n ≤ l2.length := by
    refine ⟨(mn (l0.length : Int) (mn (l1.length : Int) (l2.length : Int))).toNat, ?_⟩
    unfold mn
    split <;> split <;> omega
  rw [hn]
  by_cases h : (n : Int) > 200
  · rw [if_pos h]
  · rw [if_neg h, if_pos (by omega), Int.toNat_natCast, if_pos (by omega)]
    have := linear_l0 l0 l1 l2 b0 b1 b2 n (by omega) g0 g1 g2 n 0 202 (by omega) (by omega)
    simpa using this
end Go.Proofs.Ytkgdmbddenfkpaa.Pure
