/- The document's list of all that one needs: by going on until nothing comes. No condition. -/
import Derived.Test.YtndmfjdoekdleaaKGraphMoreSim
namespace Go.Proofs.Ytndmfjdoekdleaa.Pure
open Go.RowKit Go.Proofs.Ytndmfjdoekdleaa.P Go.Proofs.YtndmfjdoekdleaaW.PrintWords Go.Proofs.YtndmfjdoekdleaaW.PrintLast
set_option linter.unusedVariables false
set_option linter.unusedSimpArgs false

/-- One round more: nothing is lost, nothing comes that isn't reached, and all comes that one that was there needs. -/
structure Pass (l : List S29) (f : Int) (bs bs' : List Bool) : Prop where
  len : bs'.length = bs.length
  keep : ∀ i : Nat, bs.getD i false = true → bs'.getD i false = true
  sound : (∀ i : Nat, bs.getD i false = true → Rch (sc l) f i) → ∀ i : Nat, bs'.getD i false = true → Rch (sc l) f i
theorem Pass.refl (l : List S29) (f : Int) (bs : List Bool) : Pass l f bs bs := ⟨rfl, fun _ h => h, fun h => h⟩
theorem Pass.trans {l : List S29} {f : Int} {a b c : List Bool} (h : Pass l f a b) (k : Pass l f b c) : Pass l f a c := ⟨k.len.trans h.len, fun i hi => k.keep i (h.keep i hi), fun hs => k.sound (h.sound hs)⟩
end Go.Proofs.Ytndmfjdoekdleaa.Pure
