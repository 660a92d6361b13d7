/- Short words for walks: reads past stores into another block, steps of a region that draws. No condition. -/
import Derived.Test.YtafpkpalkaphkaaDoorKCapSealedWWords
import Derived.Test.YtafpkpalkaphkaaDoorKCapSealedWTab
import Derived.Test.YtafpkpalkaphkaaDoorKCapSealedWMore
namespace Go.Proofs.YtafpkpalkaphkaaDoor.P
open Go.RowKit Go.Proofs.YtafpkpalkaphkaaDoorW.PrintWords Go.Proofs.YtafpkpalkaphkaaDoorW.PrintLast Go.Proofs.YtafpkpalkaphkaaDoorW.PrintMore
set_option linter.unusedVariables false
theorem s1 {α : Type} {xs : List α} {i : Nat} {a : α} : xs.toArray.setIfInBounds i a = (xs.set i a).toArray := by simp
theorem s2 {α : Type} {x : α} {xs : List α} {a : α} : (x :: xs).set 0 a = a :: xs := rfl
theorem s3 {α : Type} {x : α} {xs : List α} {n : Nat} {a : α} : (x :: xs).set (n + 1) a = x :: xs.set n a := rfl
end Go.Proofs.YtafpkpalkaphkaaDoor.P
