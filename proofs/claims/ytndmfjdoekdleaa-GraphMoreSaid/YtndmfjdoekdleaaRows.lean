/-
  No cell of these rows narrows 'for every input' (looked for: loops, veiled, ifaces, maps, wideKeys, modest, calm, conditions, laid).
  DERIVED. THE GIVEN ROWS OF THIS SEAT. 5 by the template 'for every input the law returns true; each argument reads behind the call as it read before'; 0 by the template 'total and deterministic' (their statements: YtndmfjdoekdleaaTotals.lean).
  GIVEN WITH THE SEED: the statements are not yours to turn. If you find one false, say at which input.
  Laid BY PROGRAM, IN A SANDBOX (cutbox-rows.mjs): the forced cells as the released guide's own fill.sh prints them over the translation 37a8f907fed32135… (all of the seat's roots in one cut). By AI agents, Wed Nov 11 2026. No macro, syntax, notation, axiom, sorry.
-/
import Derived.Test.YtndmfjdoekdleaaChecked
import GoSem.Claim
import GoSem.ClaimJoined
import GoSem.ClaimMapViews
import Derived.JoinedTies
import Derived.KernelRfl
namespace Go.Proofs.Ytndmfjdoekdleaa
/- THE CELL 'sum', in the pinned program and in every row, IS THE sha256 OF THE DUMP (.gsa) THAT YtndmfjdoekdleaaProg.lean LOADS. Nothing in Lean hashes anything: it is a label: what it is worth is what the hold of that sum in a sandbox is worth. -/
noncomputable def Try.pinned : Pinned := { name := "ytndmfjdoekdleaa", sum := "37a8f907fed3213573fb49499250c79c374226746f5a2e8a7267c66e364a6818", checked := Try.checked }
namespace Rows
def none {H : Type} : Left H := { results := [], args := [] }

/-- 'curtilagelaw13.GraphMore': WHATEVER THE INPUT: true; the input reads as it did. -/
def graphMoreSpec : ChangeSpec := { name := "graphMore", fn := fun _ => fun
  | [d1, d2, d3] => { results := [.lit (.bool true)], args := [d1, d2, d3] }
  | _ => none }
def graphMoreRow : OpenClaim := { program := "ytndmfjdoekdleaa", sum := "37a8f907fed3213573fb49499250c79c374226746f5a2e8a7267c66e364a6818", func := "curtilage/curtilagelaw13.GraphMore", spec := "graphMore", unfollowed := true, recurses := true, apart := false }
def GraphMoreSaid : Prop := graphMoreRow.holds Try.pinned (OpenSpec.ofChange graphMoreSpec)

/-- ITS FALSE NEIGHBOUR: 'it returns false'. Refute it at one input. -/
def graphMoreWrong : ChangeSpec := { name := "graphMore", fn := fun _ => fun
  | [d1, d2, d3] => { results := [.lit (.bool false)], args := [d1, d2, d3] }
  | _ => none }
def GraphMoreWrongFalsely : Prop := graphMoreRow.holds Try.pinned (OpenSpec.ofChange graphMoreWrong)

/-- 'curtilagelaw13.GraphBegins': WHATEVER THE INPUT: true; the input reads as it did. -/
def graphBeginsSpec : ChangeSpec := { name := "graphBegins", fn := fun _ => fun
  | [d1, d2] => { results := [.lit (.bool true)], args := [d1, d2] }
  | _ => none }
def graphBeginsRow : OpenClaim := { program := "ytndmfjdoekdleaa", sum := "37a8f907fed3213573fb49499250c79c374226746f5a2e8a7267c66e364a6818", func := "curtilage/curtilagelaw13.GraphBegins", spec := "graphBegins", unfollowed := true, recurses := true, apart := false }
def GraphBeginsSaid : Prop := graphBeginsRow.holds Try.pinned (OpenSpec.ofChange graphBeginsSpec)

/-- ITS FALSE NEIGHBOUR: 'it returns false'. Refute it at one input. -/
def graphBeginsWrong : ChangeSpec := { name := "graphBegins", fn := fun _ => fun
  | [d1, d2] => { results := [.lit (.bool false)], args := [d1, d2] }
  | _ => none }
def GraphBeginsWrongFalsely : Prop := graphBeginsRow.holds Try.pinned (OpenSpec.ofChange graphBeginsWrong)

/-- 'curtilagelaw13.GraphBehind': WHATEVER THE INPUT: true; the input reads as it did. -/
def graphBehindSpec : ChangeSpec := { name := "graphBehind", fn := fun _ => fun
  | [d1, d2] => { results := [.lit (.bool true)], args := [d1, d2] }
  | _ => none }
def graphBehindRow : OpenClaim := { program := "ytndmfjdoekdleaa", sum := "37a8f907fed3213573fb49499250c79c374226746f5a2e8a7267c66e364a6818", func := "curtilage/curtilagelaw13.GraphBehind", spec := "graphBehind", unfollowed := true, recurses := true, apart := false }
def GraphBehindSaid : Prop := graphBehindRow.holds Try.pinned (OpenSpec.ofChange graphBehindSpec)

/-- ITS FALSE NEIGHBOUR: 'it returns false'. Refute it at one input. -/
def graphBehindWrong : ChangeSpec := { name := "graphBehind", fn := fun _ => fun
  | [d1, d2] => { results := [.lit (.bool false)], args := [d1, d2] }
  | _ => none }
def GraphBehindWrongFalsely : Prop := graphBehindRow.holds Try.pinned (OpenSpec.ofChange graphBehindWrong)

/-- 'curtilagelaw13.GraphCloses': WHATEVER THE INPUT: true; the input reads as it did. -/
def graphClosesSpec : ChangeSpec := { name := "graphCloses", fn := fun _ => fun
  | [d1, d2, d3] => { results := [.lit (.bool true)], args := [d1, d2, d3] }
  | _ => none }
def graphClosesRow : OpenClaim := { program := "ytndmfjdoekdleaa", sum := "37a8f907fed3213573fb49499250c79c374226746f5a2e8a7267c66e364a6818", func := "curtilage/curtilagelaw13.GraphCloses", spec := "graphCloses", unfollowed := true, recurses := true, apart := false }
def GraphClosesSaid : Prop := graphClosesRow.holds Try.pinned (OpenSpec.ofChange graphClosesSpec)

/-- ITS FALSE NEIGHBOUR: 'it returns false'. Refute it at one input. -/
def graphClosesWrong : ChangeSpec := { name := "graphCloses", fn := fun _ => fun
  | [d1, d2, d3] => { results := [.lit (.bool false)], args := [d1, d2, d3] }
  | _ => none }
def GraphClosesWrongFalsely : Prop := graphClosesRow.holds Try.pinned (OpenSpec.ofChange graphClosesWrong)

/-- 'curtilagelaw13.GraphAll': WHATEVER THE INPUT: true; the input reads as it did. -/
def graphAllSpec : ChangeSpec := { name := "graphAll", fn := fun _ => fun
  | [d1, d2] => { results := [.lit (.bool true)], args := [d1, d2] }
  | _ => none }
def graphAllRow : OpenClaim := { program := "ytndmfjdoekdleaa", sum := "37a8f907fed3213573fb49499250c79c374226746f5a2e8a7267c66e364a6818", func := "curtilage/curtilagelaw13.GraphAll", spec := "graphAll", unfollowed := true, recurses := true, apart := false }
def GraphAllSaid : Prop := graphAllRow.holds Try.pinned (OpenSpec.ofChange graphAllSpec)

/-- ITS FALSE NEIGHBOUR: 'it returns false'. Refute it at one input. -/
def graphAllWrong : ChangeSpec := { name := "graphAll", fn := fun _ => fun
  | [d1, d2] => { results := [.lit (.bool false)], args := [d1, d2] }
  | _ => none }
def GraphAllWrongFalsely : Prop := graphAllRow.holds Try.pinned (OpenSpec.ofChange graphAllWrong)

/- THE SECOND FORM. 'bulk': how many values and letters a reading holds, each counted each time it is reached (what is shared counts as often as it is met; a slice's spare places count too). A statement '..UptoSaid' is the law's where the arguments, and the package variables that the reading takes, are together of bulk at most 1048576: NARROWER than '..Said'. Prove '..Said' where nothing that the law and all that it calls make is longer than what came in: it says more and counts as full. Else prove '..UptoSaid'. A law counts once. -/
mutual
def uptoBulk {H : Type} : DataW H → Nat
  | .lit (.string bytes) => bytes.length + 1
  | .lit _ => 1
  | .nil => 1
  | .ptr d => uptoBulk d + 1
  | .slice elems spare => uptoBulkAll elems + uptoBulkAll spare + 1
  | .agg parts => uptoBulkAll parts + 1
  | .iface _ d => uptoBulk d + 1
  | .map entries => uptoBulkEntries entries + 1
  | .held _ => 1
def uptoBulkAll {H : Type} : List (DataW H) → Nat
  | [] => 0
  | d :: r => uptoBulk d + uptoBulkAll r
def uptoBulkEntries {H : Type} : List (Lit × DataW H) → Nat
  | [] => 0
  | x :: r => uptoBulkEntry x + uptoBulkEntries r
def uptoBulkEntry {H : Type} : Lit × DataW H → Nat
  | (.string bytes, d) => bytes.length + uptoBulk d + 1
  | (_, d) => uptoBulk d + 1
 end
def uptoSmall : (H : Type) → List (DataW H) → Bool := fun _ ds => decide (uptoBulkAll ds ≤ 1048576)
def OpenSpec.upto (s : _root_.Go.ChangeSpec) : _root_.Go.OpenSpec := { _root_.Go.OpenSpec.ofChange s with cond := some uptoSmall }

/-- 'curtilagelaw13.GraphMore', WHERE WHAT IT READS IS OF BULK AT MOST 1048576: true; the input reads as it did. -/
def graphMoreUptoRow : OpenClaim := { program := "ytndmfjdoekdleaa", sum := "37a8f907fed3213573fb49499250c79c374226746f5a2e8a7267c66e364a6818", func := "curtilage/curtilagelaw13.GraphMore", spec := "graphMore", unfollowed := true, recurses := true, apart := false, narrowed := true }
def GraphMoreUptoSaid : Prop := graphMoreUptoRow.holds Try.pinned (OpenSpec.upto graphMoreSpec)

/-- 'curtilagelaw13.GraphBegins', WHERE WHAT IT READS IS OF BULK AT MOST 1048576: true; the input reads as it did. -/
def graphBeginsUptoRow : OpenClaim := { program := "ytndmfjdoekdleaa", sum := "37a8f907fed3213573fb49499250c79c374226746f5a2e8a7267c66e364a6818", func := "curtilage/curtilagelaw13.GraphBegins", spec := "graphBegins", unfollowed := true, recurses := true, apart := false, narrowed := true }
def GraphBeginsUptoSaid : Prop := graphBeginsUptoRow.holds Try.pinned (OpenSpec.upto graphBeginsSpec)

/-- 'curtilagelaw13.GraphBehind', WHERE WHAT IT READS IS OF BULK AT MOST 1048576: true; the input reads as it did. -/
def graphBehindUptoRow : OpenClaim := { program := "ytndmfjdoekdleaa", sum := "37a8f907fed3213573fb49499250c79c374226746f5a2e8a7267c66e364a6818", func := "curtilage/curtilagelaw13.GraphBehind", spec := "graphBehind", unfollowed := true, recurses := true, apart := false, narrowed := true }
def GraphBehindUptoSaid : Prop := graphBehindUptoRow.holds Try.pinned (OpenSpec.upto graphBehindSpec)

/-- 'curtilagelaw13.GraphCloses', WHERE WHAT IT READS IS OF BULK AT MOST 1048576: true; the input reads as it did. -/
def graphClosesUptoRow : OpenClaim := { program := "ytndmfjdoekdleaa", sum := "37a8f907fed3213573fb49499250c79c374226746f5a2e8a7267c66e364a6818", func := "curtilage/curtilagelaw13.GraphCloses", spec := "graphCloses", unfollowed := true, recurses := true, apart := false, narrowed := true }
def GraphClosesUptoSaid : Prop := graphClosesUptoRow.holds Try.pinned (OpenSpec.upto graphClosesSpec)

/-- 'curtilagelaw13.GraphAll', WHERE WHAT IT READS IS OF BULK AT MOST 1048576: true; the input reads as it did. -/
def graphAllUptoRow : OpenClaim := { program := "ytndmfjdoekdleaa", sum := "37a8f907fed3213573fb49499250c79c374226746f5a2e8a7267c66e364a6818", func := "curtilage/curtilagelaw13.GraphAll", spec := "graphAll", unfollowed := true, recurses := true, apart := false, narrowed := true }
def GraphAllUptoSaid : Prop := graphAllUptoRow.holds Try.pinned (OpenSpec.upto graphAllSpec)

end Rows
end Go.Proofs.Ytndmfjdoekdleaa
