/- The document's closure answers as the program's. No condition. -/
import Derived.Test.YtndmfjdoekdleaaKGraphMoreClo
namespace Go.Proofs.Ytndmfjdoekdleaa.Pure
open Go.RowKit Go.Proofs.Ytndmfjdoekdleaa.P Go.Proofs.YtndmfjdoekdleaaW.PrintWords Go.Proofs.YtndmfjdoekdleaaW.PrintLast
set_option linter.unusedVariables false
set_option linter.unusedSimpArgs false

/-- What is still to be looked at: the rest of one's needs, and those of all behind it. -/
def rest (l : List S29) (od : List Int) (at_ : Nat) : List ByteArray := ((od.drop at_).map fun x => nd_ l x).flatten
end Go.Proofs.Ytndmfjdoekdleaa.Pure
