import Derived.Test.YtghfclocelhpjaaLebZagLebTells
import Derived.Test.YtghfclocelhpjaaQLebTellsx4
import Derived.Test.YtghfclocelhpjaaLebMath
namespace Go.Proofs.Ytghfclocelhpjaa.QLebTells
open Go.RowKit Go.Proofs.YtghfclocelhpjaaW.PrintWords Go.Proofs.YtghfclocelhpjaaW.PrintLast Go.Proofs.YtghfclocelhpjaaW.PrintMore
theorem tells_known : repriselaw1_known.f 30 = some true := by
  unfold repriselaw1_known.f
  simp only [Lib.strOfNums_toList]
  decide +kernel
def Byt (l : List Int) : Prop := l.length ≤ 1000 ∧ ∀ x ∈ l, 0 ≤ x ∧ x < 256
theorem tells_l0 (x1 : Int) (h1 : 0 ≤ x1 ∧ x1 < 256) (x2 : List Int) (h2 : Byt x2) (x3 : Int) (h3 : -9223372036854775808 ≤ x3 ∧ x3 < 9223372036854775808) (R : List (List Int)) (hR : R.length ≤ 100) (hb : ∀ r ∈ R, Byt r) (d : Nat) :
    ∀ (k i : Nat), i + d = R.length → d + 50 < k → repriselaw1_LebTells.l0 k x1 x2 x3 R (R.length : Int) (i : Int) = some true := by
  induction d with
  | zero =>
    intro k i hi hk
    obtain ⟨k, rfl⟩ : ∃ m, k = m + 1 := ⟨k - 1, by omega⟩
    have hl := h2.1
    rw [repriselaw1_LebTells.l0, if_neg (by omega), putBytes_f k x2 (by omega) (by omega), Option.bind_some, rputBytes_f k x2 (by omega) (by omega), Option.bind_some, beq_self_eq_true]
  | succ d ih =>
    intro k i hi hk
    obtain ⟨k, rfl⟩ : ∃ m, k = m + 1 := ⟨k - 1, by omega⟩
    have hm : rd_L2 R (i : Int) ∈ R := by
      unfold rd_L2
      have hlt : ((i : Int)).toNat < R.length := by omega
      rw [List.getD_eq_getElem?_getD, List.getElem?_eq_getElem hlt]
      exact List.getElem_mem hlt
    obtain ⟨hl, hy⟩ := hb _ hm
    have e1 : wrap64 ((i : Int) + 1) = ((i + 1 : Nat) : Int) := (Zig.w64_id _ (by omega) (by omega)).trans (by omega)
    have e2 : wrap64 x1 = x1 := Zig.w64_id _ (by omega) (by omega)
    have ih1 := ih k (i + 1) (by omega) (by omega)
    rw [repriselaw1_LebTells.l0, if_pos (show (i : Int) < (R.length : Int) by omega), if_pos (show (0 : Int) ≤ (i : Int) by omega), if_pos (show (i : Int) < (R.length : Int) by omega), e1, e2]
    generalize rd_L2 R (i : Int) = y at *
    rw [read_f k y hy (by omega), Option.bind_some, rread_f k y hy (by omega), Option.bind_some, readBytes_f k y x3 (by omega) hy h3.1 h3.2 (by omega), Option.bind_some, rreadBytes_f k y x3 (by omega) hy h3.1 h3.2 (by omega), Option.bind_some,
      if_pos rfl, if_pos rfl, if_pos rfl, if_pos rfl, if_pos rfl, if_pos rfl, readBytes_f k y x1 (by omega) hy (by omega) (by omega) (by omega), Option.bind_some, rreadBytes_f k y x1 (by omega) hy (by omega) (by omega) (by omega), Option.bind_some, if_pos rfl, if_pos rfl, if_pos rfl]
    exact ih1
theorem enc_byt (n : Nat) (h : n < 18446744073709551616) : Byt (Leb.enc n) :=
  ⟨by have := Leb.enc_len10 n h; omega, Leb.enc_byte n⟩
theorem byt_take {l : List Int} (h : Byt l) (n : Nat) : Byt (l.take n) := ⟨by have := h.1; rw [List.length_take]; omega, fun x hx => h.2 x (List.mem_of_mem_take hx)⟩
theorem byt_cat {l m : List Int} (hl : l.length ≤ 500) (hm : m.length ≤ 500) (h : Byt l) (g : Byt m) : Byt (l ++ m) := ⟨by rw [List.length_append]; omega, fun x hx => (List.mem_append.1 hx).elim (h.2 x) (g.2 x)⟩
theorem tells_j0 (x1 : Int) (h1 : 0 ≤ x1 ∧ x1 < 256) (x2 : List Int) (h2 : Byt x2) (hx2 : x2.length ≤ 40) (x3 : Int) (h3 : -9223372036854775808 ≤ x3 ∧ x3 < 9223372036854775808) (b : List Int) (hb : Byt b) (hbl : b.length ≤ 10) (k : Nat) (hk : 100 ≤ k) :
    repriselaw1_LebTells.j0 k x1 x2 x3 b false = some true := by
  obtain ⟨k, rfl⟩ : ∃ m, k = m + 1 := ⟨k - 1, by omega⟩
  have e0 : wrap64 x1 = x1 := Zig.w64_id _ (by omega) (by omega)
  have e1 : wrap64 ((b.length : Int) + 1) = (b.length : Int) + 1 := Zig.w64_id _ (by omega) (by omega)
  have ht0 : 0 ≤ Int.tmod x1 ((b.length : Int) + 1) := Int.tmod_nonneg _ h1.1
  have ht1 : Int.tmod x1 ((b.length : Int) + 1) < (b.length : Int) + 1 := Int.tmod_lt_of_pos _ (by omega)
  have hn0 : 0 ≤ Int.tmod x1 9 := Int.tmod_nonneg _ h1.1
  have hn1 : Int.tmod x1 9 < 9 := Int.tmod_lt_of_pos _ (by decide)
  have hf0 : 0 ≤ Int.tmod x1 4 := Int.tmod_nonneg _ h1.1
  have hf1 : Int.tmod x1 4 < 4 := Int.tmod_lt_of_pos _ (by decide)
  have hL : Byt [128, 128, 128, 128, 128, 128, 128, 128, 128, Int.tmod x1 4] := by
    refine ⟨by simp, fun x hx => ?_⟩
    simp only [List.mem_cons, List.not_mem_nil, or_false] at hx
    omega
  have hLl : ([128, 128, 128, 128, 128, 128, 128, 128, 128, Int.tmod x1 4] : List Int).length = 10 := rfl
  rw [repriselaw1_LebTells.j0, if_neg (by decide), Option.bind_some, e0, e1]
  generalize [128, 128, 128, 128, 128, 128, 128, 128, 128, Int.tmod x1 4] = L at *
  rw [if_neg (show ¬ (b.length : Int) + 1 = 0 by omega), if_pos ht0, if_pos (show Int.tmod x1 ((b.length : Int) + 1) ≤ (b.length : Int) by omega), if_pos (show ([] : List Int).length + b.length < 140737488355328 by simp only [List.length_nil]; omega), Option.bind_some, List.nil_append,
    if_pos (show b.length + x2.length < 140737488355328 by omega), if_pos hn0, if_pos (show Int.tmod x1 9 ≤ (L.length : Int) by omega), Option.bind_some, if_pos (show ([] : List Int).length + (L.take (Int.tmod x1 9).toNat).length < 140737488355328 by rw [List.length_take]; simp only [List.length_nil]; omega), Option.bind_some, Option.bind_some,
    List.nil_append, if_pos (show (L.take (Int.tmod x1 9).toNat).length + ([0] : List Int).length < 140737488355328 by rw [List.length_take, List.length_singleton]; omega), Option.bind_some]
  refine tells_l0 x1 h1 x2 h2 x3 h3 _ (by simp) ?_ 6 k 0 rfl (by omega)
  intro r hr
  simp only [List.mem_cons, List.not_mem_nil, or_false] at hr
  rcases hr with rfl | rfl | rfl | rfl | rfl | rfl
  · exact h2
  · exact hb
  · exact byt_take hb _
  · exact byt_cat (by omega) (by omega) hb h2
  · exact hL
  · exact byt_cat (by rw [List.length_take]; omega) (by simp) (byt_take hL _) ⟨by simp, fun x hx => by rw [List.mem_singleton.1 hx]; omega⟩
theorem edge_f (n : Int) (h0 : 0 ≤ n) (h1 : n ≤ 18446744073709551615) (k : Int) (hk : 0 ≤ k ∧ k < 256) : ∃ x, repriselaw1_edge.f n k = some x ∧ 0 ≤ x ∧ x ≤ 18446744073709551615 := by
  have e0 : wrap64 k = k := Zig.w64_id _ (by omega) (by omega)
  have ht0 : 0 ≤ Int.tmod k 13 := Int.tmod_nonneg _ hk.1
  have ht1 : Int.tmod k 13 < 13 := Int.tmod_lt_of_pos _ (by decide)
  unfold repriselaw1_edge.f
  rw [Option.bind_some, e0, if_neg (show ¬ (([n, n / 4294967296, n / 1125899906842624, n / 144115188075855872, 0, 127, 128, 16383, 16384, 9223372036854775807, 9223372036854775808, 18446744073709551615, 34359738368] : List Int).length : Int) = 0 by simp)]
  show ∃ x, (if 0 ≤ Int.tmod k 13 then (if Int.tmod k 13 < 13 then (some (rd [n, n / 4294967296, n / 1125899906842624, n / 144115188075855872, 0, 127, 128, 16383, 16384, 9223372036854775807, 9223372036854775808, 18446744073709551615, 34359738368] (Int.tmod k 13))) else none) else none) = some x ∧ _
  rw [if_pos ht0, if_pos ht1]
  refine ⟨_, rfl, ?_⟩
  generalize Int.tmod k 13 = z at ht0 ht1
  have : z = 0 ∨ z = 1 ∨ z = 2 ∨ z = 3 ∨ z = 4 ∨ z = 5 ∨ z = 6 ∨ z = 7 ∨ z = 8 ∨ z = 9 ∨ z = 10 ∨ z = 11 ∨ z = 12 := by omega
  rcases this with rfl | rfl | rfl | rfl | rfl | rfl | rfl | rfl | rfl | rfl | rfl | rfl | rfl
  · exact ⟨h0, h1⟩
  · show 0 ≤ n / 4294967296 ∧ n / 4294967296 ≤ 18446744073709551615
    omega
  · show 0 ≤ n / 1125899906842624 ∧ n / 1125899906842624 ≤ 18446744073709551615
    omega
  · show 0 ≤ n / 144115188075855872 ∧ n / 144115188075855872 ≤ 18446744073709551615
    omega
  all_goals exact ⟨by simp [rd], by simp [rd]⟩
end Go.Proofs.Ytghfclocelhpjaa.QLebTells
namespace Go.Proofs.Ytghfclocelhpjaa.Pure
open Go.RowKit Go.Proofs.Ytghfclocelhpjaa.QLebTells Go.Proofs.YtghfclocelhpjaaW.PrintWords Go.Proofs.YtghfclocelhpjaaW.PrintLast
theorem LebTells : repriselaw1_LebTells.Pure := by
  intro n k raw most hn hk _ _ hr hm
  have bn := Zig.wf_u64 hn
  have bk := Zig.wf_u8 hk
  have bm := Zig.wf_i64 hm
  refine ⟨1000, ?_⟩
  unfold repriselaw1_LebTells.f
  rw [at_rounds repriselaw1_known.mono (by decide : 30 ≤ 1000) tells_known, Option.bind_some, if_pos rfl]
  by_cases hl : (raw.length : Int) > 40
  · rw [if_pos hl]
  · rw [if_neg hl]
    have hraw : Byt raw := ⟨by omega, fun x hx => by have := Zig.wf_u8 (hr x hx); omega⟩
    obtain ⟨x, hx, h0, h1⟩ := edge_f n bn.1 bn.2 k (by omega)
    have hp1 : leb_Put.f 1000 x = some (Leb.enc x.toNat) := put_f 1000 x h0 h1 (by decide)
    have hp2 : repriseref1_Put.f 1000 x = some (Leb.enc x.toNat) := by
      have := rput_f 1000 x.toNat (by decide) (by omega)
      rwa [show ((x.toNat : Nat) : Int) = x by omega] at this
    have hz : ∀ a, -9223372036854775808 ≤ a → a ≤ 9223372036854775807 → leb_Zig.f a = some (if a < 0 then -2 * a - 1 else 2 * a) := fun a g1 g2 => by
      unfold leb_Zig.f; rw [Zig.zig a g1 g2]
    have hg : ∀ a, 0 ≤ a → a ≤ 18446744073709551615 → leb_Zag.f a = some (if a % 2 = 0 then a / 2 else -(a / 2) - 1) := fun a g1 g2 => by
      unfold leb_Zag.f; rw [Zig.zag a g1 g2]
    have hw : -9223372036854775808 ≤ wrap64 x ∧ wrap64 x ≤ 9223372036854775807 := by unfold wrap64; omega
    have e1 : leb_Zag.f (if wrap64 x < 0 then -2 * wrap64 x - 1 else 2 * wrap64 x) = some (wrap64 x) := by
      generalize wrap64 x = w at hw
      by_cases hneg : w < 0
      · rw [if_pos hneg, hg _ (by omega) (by omega), if_neg (by omega)]
        congr 1
        omega
      · rw [if_neg hneg, hg _ (by omega) (by omega), if_pos (by omega)]
        congr 1
        omega
    have e2 : leb_Zig.f (if x % 2 = 0 then x / 2 else -(x / 2) - 1) = some x := by
      by_cases hev : x % 2 = 0
      · rw [if_pos hev, hz _ (by omega) (by omega), if_neg (by omega)]
        congr 1
        omega
      · rw [if_neg hev, hz _ (by omega) (by omega), if_pos (by omega)]
        congr 1
        omega
    rw [hx, Option.bind_some, hp2, Option.bind_some, hp1, Option.bind_some, if_pos rfl, hg x h0 h1, Option.bind_some, rzag x h0 h1, Option.bind_some, if_pos rfl, hz _ hw.1 hw.2, Option.bind_some, rzig _ hw.1 hw.2, Option.bind_some, if_pos rfl, Option.bind_some, e1, Option.bind_some, if_pos rfl, Option.bind_some, e2, Option.bind_some, bne_self_eq_false]
    exact tells_j0 k (by omega) raw hraw (by omega) most (by omega) (Leb.enc x.toNat) (enc_byt _ (by omega)) (Leb.enc_len10 _ (by omega)) 1000 (by decide)
end Go.Proofs.Ytghfclocelhpjaa.Pure
