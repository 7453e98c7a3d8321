/- 'string(row)' of a row that is shared. -/
import Derived.Test.YtghfclocelhpjaaWMore
namespace Go.Proofs.YtghfclocelhpjaaW.PrintWords
open Go.RowKit
theorem V_string {P : Program} {w : World} {base : Nat} {e' src dst e : TypeId} {ok : Nat → Prop} {v : Value} {xs : List Int} (hs : P.underlying src = some (.slice e)) (he : P.underlying e = some (.int .u8)) (hd : P.underlying dst = some .string)
    (h : Kd.V (Kd.int .u8) e' w base ok v xs) : (convert src dst v).run P w = .ok (.string (strOfNums xs)) w := by
  obtain ⟨A, c, rfl, hl, hf⟩ := h
  exact string_of_reads hs he hd (Kd.reads_of_C (d := (0 : Int)) (h1 := fun _ => rfl) (Kd.F_now hf))
end Go.Proofs.YtghfclocelhpjaaW.PrintWords
