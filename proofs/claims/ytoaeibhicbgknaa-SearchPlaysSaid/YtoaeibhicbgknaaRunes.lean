/- 'string(runes)', and the cell of the library's that strings.Contains reads; no program. -/
import Derived.Test.YtoaeibhicbgknaaConv
import Derived.Laws.Cover4
namespace Go.Proofs.YtoaeibhicbgknaaW.PrintWords
open Go.RowKit
theorem Kd.C_runes {P : Program} {w : World} {src dst e : TypeId} {A : Option Addr} {n c : Nat} {xs : List Int} (hs : P.underlying src = some (.slice e)) (he : P.underlying e = some (.int .i32)) (hd : P.underlying dst = some .string)
    (h : Kd.C (Kd.int .i32) w A n xs) : (convert src dst (.slice A n c)).run P w = .ok (.string (runesBytes xs)) w := by
  have hr := Kd.reads_of_C (d := (0 : Int)) (h1 := fun _ => rfl) h
  obtain ⟨h1, _, h3⟩ := hr
  rcases Nat.eq_zero_or_pos n with h0 | h0
  · subst h0
    obtain rfl : xs = [] := List.eq_nil_of_length_eq_zero h1
    cases A with
    | none => exact run_convert_runes_nil w src dst e 0 c hs he hd
    | some a => exact run_convert_runes w src dst e a 0 c [] (Nat.le_refl _) hs he hd (fun j hj => by simp at hj)
  · obtain ⟨ad, rfl, hc⟩ := h3 h0
    have := run_convert_runes w src dst e ad n c xs (by omega) hs he hd (fun j hj => hc j (by omega))
    rwa [← h1, List.take_length, h1] at this
theorem own_runes {P : Program} {w : World} {base : Nat} {e' src dst e : TypeId} {ok : Nat → Prop} {v : Value} {xs : List Int} (hs : P.underlying src = some (.slice e)) (he : P.underlying e = some (.int .i32)) (hd : P.underlying dst = some .string)
    (h : Kd.R (Kd.int .i32) e' w base ok v xs) : (convert src dst v).run P w = .ok (.string (runesBytes xs)) w := by
  obtain ⟨A, c, rfl, _, hC⟩ := Kd.R_reads h
  exact Kd.C_runes hs he hd hC
/-- some number lies in the first variable -/
def Sh (w : World) : Prop := ∃ m : Int, w.cell? ⟨0, 0, none⟩ = some (.int .i64 m)
structure Sh0 (w : World) : Prop where mk :: (out : Sh w)
theorem Sh0.of {w w1 : World} (h : Sh0 w) (hb : Aside0 (Below w.heap.size w w1)) : Sh0 w1 := by
  obtain ⟨m, hm⟩ := h.out
  exact ⟨m, pw_cell_below hb.out hm⟩
theorem Sh0.drew {w : World} (h : Sh0 w) : Sh0 w.drew := h.of ⟨below_drew (Below.refl _ _)⟩
theorem Sh0.drewN {w : World} (h : Sh0 w) (n : Nat) : Sh0 (w.drewN n) := h.of ⟨pw_below_drewN (Below.refl _ _) n⟩
theorem Sh0.alloc {w : World} (h : Sh0 w) (o : Obj) : Sh0 (w.alloc o) := h.of ⟨below_alloc (Below.refl _ _) o⟩
theorem Sh0.set {w w1 : World} {p : Addr} {v : Value} (h : Sh0 w) (hge : Aside0 (w.heap.size ≤ p.block)) (h1 : Sh0 w1) : Sh0 (w1.setCell p v) := by
  obtain ⟨m, hm⟩ := h.out
  obtain ⟨m1, hm1⟩ := h1.out
  have h0 := World.block_lt_of_cell? _ _ hm
  have h2 := hge.out
  refine ⟨m1, ?_⟩
  rw [← hm1]
  have := Below.heap_setCell w1 p v 0 (by simp only at h0; omega)
  simp only [World.cell?, this]
end Go.Proofs.YtoaeibhicbgknaaW.PrintWords
