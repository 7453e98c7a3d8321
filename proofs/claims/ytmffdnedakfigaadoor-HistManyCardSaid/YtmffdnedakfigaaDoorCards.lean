/-
  DERIVED. GIVEN WITH THE SEED: THE CARDS: each row of YtmffdnedakfigaaDoorRows.lean that lists a variable, with what it lists TIED to the program's text (the seventh form; the later family's looks); each row that meets fmt, with fmt's text TOLD by the authors' own Lean function (tested against real Go, not proved from fmt's source: count such statements apart). THE CARD IS WHAT COUNTS. Prove the row's statement (the work); the ties are given (YtmffdnedakfigaaDoorTie.lean); close each card by the builder's one call (the guide's Derived/Test/ToyasCard.lean, 'card_holds'). Laid BY PROGRAM, IN A SANDBOX (cutbox-door.mjs). By AI agents, Wed Nov 11 2026. No macro, syntax, notation, axiom, sorry.
-/
import Derived.Test.YtmffdnedakfigaaDoorRows
import GoSem.ClaimSeven
namespace Go.Proofs.YtmffdnedakfigaaDoor
namespace Rows

/-- THE TIED CARD OF 'repriselaw15.HistMany'. -/
def histManyCard : Claim7 := { stood := { row := histManyRow, standIns := [], harness := (true, "556250d71915a98d0976b50d9458c84efb7be68f5814962223811a88f28a73d6"), looks := false }, kinds := [], alts := [], laidByText := true, laidKinds := [.data, .pinned], laidTests := true, laidLooks := .later }
def HistManyCardSaid : Prop := Claim7.holds Tryd.pinned (.plain (OpenSpec.ofChange histManySpec)) histManyCard

/-- THE SECOND FORM's CARD OF 'repriselaw15.HistMany'. -/
def histManyUptoCard : Claim7 := { stood := { row := histManyUptoRow, standIns := [], harness := (true, "556250d71915a98d0976b50d9458c84efb7be68f5814962223811a88f28a73d6"), looks := false }, kinds := [], alts := [], laidByText := true, laidKinds := [.data, .pinned], laidTests := true, laidLooks := .later }
def HistManyUptoCardSaid : Prop := Claim7.holds Tryd.pinned (.plain (OpenSpec.upto histManySpec)) histManyUptoCard
end Rows
end Go.Proofs.YtmffdnedakfigaaDoor
