/- All that one needs: the program's list, and the document's, are the places that it reaches, rising. No condition. -/
import Derived.Test.YtndmfjdoekdleaaKGraphBehindSim
namespace Go.Proofs.Ytndmfjdoekdleaa.Pure
open Go.RowKit Go.Proofs.Ytndmfjdoekdleaa.P Go.Proofs.YtndmfjdoekdleaaW.PrintWords Go.Proofs.YtndmfjdoekdleaaW.PrintLast
set_option linter.unusedVariables false
set_option linter.unusedSimpArgs false

def Rising (l : List Int) : Prop := l.Pairwise (· < ·)
/-- Is this list the places that one reaches, rising? -/
structure Far (l : List S29) (from_ : Int) (r : List Int) : Prop where
  up : Rising r
  mem : ∀ x, x ∈ r ↔ Rch (sc l) from_ x
theorem rch_range {l : List S29} {f x : Int} (h0 : 0 ≤ f) (h1 : f < l.length) (h : Rch (sc l) f x) : 0 ≤ x ∧ x < l.length := by
  cases h with
  | refl => exact ⟨h0, h1⟩
  | step _ hz hz0 =>
    obtain ⟨n, _, rfl⟩ := List.mem_map.1 hz
    exact ⟨hz0, (firstAt_range _ _).1⟩

end Go.Proofs.Ytndmfjdoekdleaa.Pure
