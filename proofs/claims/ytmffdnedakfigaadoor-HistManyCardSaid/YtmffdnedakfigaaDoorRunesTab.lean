/- The two tables of the library's that utf8.ValidString reads, told of a world. -/
import Derived.Test.YtmffdnedakfigaaDoorConv
import Derived.Test.YtmffdnedakfigaaDoorShelf
namespace Go.Proofs.YtmffdnedakfigaaDoorW.PrintWords
open Go.RowKit
/-- the two tables of unicode/utf8 lie in the world as the library's text lays them -/
def Sh (w : World) : Prop := Lib.Utf8Tabs (Tryd.lays196_ren.g 3) (Tryd.lays196_ren.g 4) w
structure Sh0 (w : World) : Prop where mk :: (out : Sh w)
theorem Sh0.of {w w1 : World} (h : Sh0 w) (hb : Aside0 (Below w.heap.size w w1)) : Sh0 w1 := ⟨Utf8Tabs_below h.out hb.out⟩
theorem Sh0.drew {w : World} (h : Sh0 w) : Sh0 w.drew := h.of ⟨below_drew (Below.refl _ _)⟩
theorem Sh0.drewN {w : World} (h : Sh0 w) (n : Nat) : Sh0 (w.drewN n) := h.of ⟨pw_below_drewN (Below.refl _ _) n⟩
theorem Sh0.alloc {w : World} (h : Sh0 w) (o : Obj) : Sh0 (w.alloc o) := h.of ⟨below_alloc (Below.refl _ _) o⟩
theorem Sh0.set {w w1 : World} {p : Addr} {v : Value} (h : Sh0 w) (hge : Aside0 (w.heap.size ≤ p.block)) (h1 : Sh0 w1) : Sh0 (w1.setCell p v) := by
  have lt : ∀ {a : Addr} {u : Value}, w.cell? a = some u → a.block ≠ p.block := fun {a u} hc => by
    have := World.block_lt_of_cell? _ _ hc
    have := hge.out
    omega
  have st : ∀ {a : Addr} {u : Value}, w.cell? a = some u → (w1.setCell p v).cell? a = w1.cell? a := fun {a u} hc => by
    have := Below.heap_setCell w1 p v a.block (lt hc)
    simp only [World.cell?, this]
  exact ⟨⟨fun c hc => (st (h.out.1 c hc)).trans (h1.out.1 c hc), fun i hi => ⟨(st (h.out.2 i hi).1).trans (h1.out.2 i hi).1, (st (h.out.2 i hi).2).trans (h1.out.2 i hi).2⟩⟩⟩
end Go.Proofs.YtmffdnedakfigaaDoorW.PrintWords
