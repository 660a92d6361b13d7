/-
  No cell of these rows narrows 'for every input' (looked for: loops, veiled, ifaces, maps, wideKeys, modest, calm, conditions, laid).
  DERIVED. THE GIVEN ROWS OF THIS SEAT. 6 by the template 'for every input the law returns true; each argument reads behind the call as it read before'; 0 by the template 'total and deterministic' (their statements: YtociaidhgefpiaaTotals.lean).
  GIVEN WITH THE SEED: the statements are not yours to turn. If you find one false, say at which input.
  Laid BY PROGRAM, IN A SANDBOX (cutbox-rows.mjs): the forced cells as the released guide's own fill.sh prints them over the translation c021b9820e5505b5… (all of the seat's roots in one cut). By AI agents, Wed Nov 11 2026. No macro, syntax, notation, axiom, sorry.
-/
import Derived.Test.YtociaidhgefpiaaChecked
import GoSem.Claim
import GoSem.ClaimJoined
import GoSem.ClaimMapViews
import Derived.JoinedTies
import Derived.KernelRfl
namespace Go.Proofs.Ytociaidhgefpiaa
/- THE CELL 'sum', in the pinned program and in every row, IS THE sha256 OF THE DUMP (.gsa) THAT YtociaidhgefpiaaProg.lean LOADS. Nothing in Lean hashes anything: it is a label: what it is worth is what the hold of that sum in a sandbox is worth. -/
noncomputable def Try.pinned : Pinned := { name := "ytociaidhgefpiaa", sum := "c021b9820e5505b586fd411fc2633775a4277844f0af70278a4aa1a87119f1a2", checked := Try.checked }
namespace Rows
def none {H : Type} : Left H := { results := [], args := [] }

/-- 'curtilagelaw21.DlNeeded': WHATEVER THE INPUT: true; the input reads as it did. -/
def dlNeededSpec : ChangeSpec := { name := "dlNeeded", fn := fun _ => fun
  | [d1, d2, d3] => { results := [.lit (.bool true)], args := [d1, d2, d3] }
  | _ => none }
def dlNeededRow : OpenClaim := { program := "ytociaidhgefpiaa", sum := "c021b9820e5505b586fd411fc2633775a4277844f0af70278a4aa1a87119f1a2", func := "curtilage/curtilagelaw21.DlNeeded", spec := "dlNeeded", unfollowed := true, recurses := true, apart := false }
def DlNeededSaid : Prop := dlNeededRow.holds Try.pinned (OpenSpec.ofChange dlNeededSpec)

/-- ITS FALSE NEIGHBOUR: 'it returns false'. Refute it at one input. -/
def dlNeededWrong : ChangeSpec := { name := "dlNeeded", fn := fun _ => fun
  | [d1, d2, d3] => { results := [.lit (.bool false)], args := [d1, d2, d3] }
  | _ => none }
def DlNeededWrongFalsely : Prop := dlNeededRow.holds Try.pinned (OpenSpec.ofChange dlNeededWrong)

/-- 'curtilagelaw21.DlBack': WHATEVER THE INPUT: true; the input reads as it did. -/
def dlBackSpec : ChangeSpec := { name := "dlBack", fn := fun _ => fun
  | [d1, d2, d3, d4] => { results := [.lit (.bool true)], args := [d1, d2, d3, d4] }
  | _ => none }
def dlBackRow : OpenClaim := { program := "ytociaidhgefpiaa", sum := "c021b9820e5505b586fd411fc2633775a4277844f0af70278a4aa1a87119f1a2", func := "curtilage/curtilagelaw21.DlBack", spec := "dlBack", unfollowed := true, recurses := true, apart := false }
def DlBackSaid : Prop := dlBackRow.holds Try.pinned (OpenSpec.ofChange dlBackSpec)

/-- ITS FALSE NEIGHBOUR: 'it returns false'. Refute it at one input. -/
def dlBackWrong : ChangeSpec := { name := "dlBack", fn := fun _ => fun
  | [d1, d2, d3, d4] => { results := [.lit (.bool false)], args := [d1, d2, d3, d4] }
  | _ => none }
def DlBackWrongFalsely : Prop := dlBackRow.holds Try.pinned (OpenSpec.ofChange dlBackWrong)

/-- 'curtilagelaw21.DlOrder': WHATEVER THE INPUT: true; the input reads as it did. -/
def dlOrderSpec : ChangeSpec := { name := "dlOrder", fn := fun _ => fun
  | [d1, d2, d3] => { results := [.lit (.bool true)], args := [d1, d2, d3] }
  | _ => none }
def dlOrderRow : OpenClaim := { program := "ytociaidhgefpiaa", sum := "c021b9820e5505b586fd411fc2633775a4277844f0af70278a4aa1a87119f1a2", func := "curtilage/curtilagelaw21.DlOrder", spec := "dlOrder", unfollowed := true, recurses := true, apart := false }
def DlOrderSaid : Prop := dlOrderRow.holds Try.pinned (OpenSpec.ofChange dlOrderSpec)

/-- ITS FALSE NEIGHBOUR: 'it returns false'. Refute it at one input. -/
def dlOrderWrong : ChangeSpec := { name := "dlOrder", fn := fun _ => fun
  | [d1, d2, d3] => { results := [.lit (.bool false)], args := [d1, d2, d3] }
  | _ => none }
def DlOrderWrongFalsely : Prop := dlOrderRow.holds Try.pinned (OpenSpec.ofChange dlOrderWrong)

/-- 'curtilagelaw21.DlCounts': WHATEVER THE INPUT: true; the input reads as it did. -/
def dlCountsSpec : ChangeSpec := { name := "dlCounts", fn := fun _ => fun
  | [d1, d2, d3, d4] => { results := [.lit (.bool true)], args := [d1, d2, d3, d4] }
  | _ => none }
def dlCountsRow : OpenClaim := { program := "ytociaidhgefpiaa", sum := "c021b9820e5505b586fd411fc2633775a4277844f0af70278a4aa1a87119f1a2", func := "curtilage/curtilagelaw21.DlCounts", spec := "dlCounts", unfollowed := true, recurses := true, apart := false }
def DlCountsSaid : Prop := dlCountsRow.holds Try.pinned (OpenSpec.ofChange dlCountsSpec)

/-- ITS FALSE NEIGHBOUR: 'it returns false'. Refute it at one input. -/
def dlCountsWrong : ChangeSpec := { name := "dlCounts", fn := fun _ => fun
  | [d1, d2, d3, d4] => { results := [.lit (.bool false)], args := [d1, d2, d3, d4] }
  | _ => none }
def DlCountsWrongFalsely : Prop := dlCountsRow.holds Try.pinned (OpenSpec.ofChange dlCountsWrong)

/-- 'curtilagelaw21.DlEither': WHATEVER THE INPUT: true; the input reads as it did. -/
def dlEitherSpec : ChangeSpec := { name := "dlEither", fn := fun _ => fun
  | [d1, d2, d3, d4, d5] => { results := [.lit (.bool true)], args := [d1, d2, d3, d4, d5] }
  | _ => none }
def dlEitherRow : OpenClaim := { program := "ytociaidhgefpiaa", sum := "c021b9820e5505b586fd411fc2633775a4277844f0af70278a4aa1a87119f1a2", func := "curtilage/curtilagelaw21.DlEither", spec := "dlEither", unfollowed := true, recurses := true, apart := false }
def DlEitherSaid : Prop := dlEitherRow.holds Try.pinned (OpenSpec.ofChange dlEitherSpec)

/-- ITS FALSE NEIGHBOUR: 'it returns false'. Refute it at one input. -/
def dlEitherWrong : ChangeSpec := { name := "dlEither", fn := fun _ => fun
  | [d1, d2, d3, d4, d5] => { results := [.lit (.bool false)], args := [d1, d2, d3, d4, d5] }
  | _ => none }
def DlEitherWrongFalsely : Prop := dlEitherRow.holds Try.pinned (OpenSpec.ofChange dlEitherWrong)

/-- 'curtilagelaw21.DlPlays': WHATEVER THE INPUT: true; the input reads as it did. -/
def dlPlaysSpec : ChangeSpec := { name := "dlPlays", fn := fun _ => fun
  | [d1, d2, d3] => { results := [.lit (.bool true)], args := [d1, d2, d3] }
  | _ => none }
def dlPlaysRow : OpenClaim := { program := "ytociaidhgefpiaa", sum := "c021b9820e5505b586fd411fc2633775a4277844f0af70278a4aa1a87119f1a2", func := "curtilage/curtilagelaw21.DlPlays", spec := "dlPlays", unfollowed := true, recurses := true, apart := false }
def DlPlaysSaid : Prop := dlPlaysRow.holds Try.pinned (OpenSpec.ofChange dlPlaysSpec)

/-- ITS FALSE NEIGHBOUR: 'it returns false'. Refute it at one input. -/
def dlPlaysWrong : ChangeSpec := { name := "dlPlays", fn := fun _ => fun
  | [d1, d2, d3] => { results := [.lit (.bool false)], args := [d1, d2, d3] }
  | _ => none }
def DlPlaysWrongFalsely : Prop := dlPlaysRow.holds Try.pinned (OpenSpec.ofChange dlPlaysWrong)

/- THE SECOND FORM. 'bulk': how many values and letters a reading holds, each counted each time it is reached (what is shared counts as often as it is met; a slice's spare places count too). A statement '..UptoSaid' is the law's where the arguments, and the package variables that the reading takes, are together of bulk at most 1048576: NARROWER than '..Said'. Prove '..Said' where nothing that the law and all that it calls make is longer than what came in: it says more and counts as full. Else prove '..UptoSaid'. A law counts once. -/
mutual
def uptoBulk {H : Type} : DataW H → Nat
  | .lit (.string bytes) => bytes.length + 1
  | .lit _ => 1
  | .nil => 1
  | .ptr d => uptoBulk d + 1
  | .slice elems spare => uptoBulkAll elems + uptoBulkAll spare + 1
  | .agg parts => uptoBulkAll parts + 1
  | .iface _ d => uptoBulk d + 1
  | .map entries => uptoBulkEntries entries + 1
  | .held _ => 1
def uptoBulkAll {H : Type} : List (DataW H) → Nat
  | [] => 0
  | d :: r => uptoBulk d + uptoBulkAll r
def uptoBulkEntries {H : Type} : List (Lit × DataW H) → Nat
  | [] => 0
  | x :: r => uptoBulkEntry x + uptoBulkEntries r
def uptoBulkEntry {H : Type} : Lit × DataW H → Nat
  | (.string bytes, d) => bytes.length + uptoBulk d + 1
  | (_, d) => uptoBulk d + 1
 end
def uptoSmall : (H : Type) → List (DataW H) → Bool := fun _ ds => decide (uptoBulkAll ds ≤ 1048576)
def OpenSpec.upto (s : _root_.Go.ChangeSpec) : _root_.Go.OpenSpec := { _root_.Go.OpenSpec.ofChange s with cond := some uptoSmall }

/-- 'curtilagelaw21.DlNeeded', WHERE WHAT IT READS IS OF BULK AT MOST 1048576: true; the input reads as it did. -/
def dlNeededUptoRow : OpenClaim := { program := "ytociaidhgefpiaa", sum := "c021b9820e5505b586fd411fc2633775a4277844f0af70278a4aa1a87119f1a2", func := "curtilage/curtilagelaw21.DlNeeded", spec := "dlNeeded", unfollowed := true, recurses := true, apart := false, narrowed := true }
def DlNeededUptoSaid : Prop := dlNeededUptoRow.holds Try.pinned (OpenSpec.upto dlNeededSpec)

/-- 'curtilagelaw21.DlBack', WHERE WHAT IT READS IS OF BULK AT MOST 1048576: true; the input reads as it did. -/
def dlBackUptoRow : OpenClaim := { program := "ytociaidhgefpiaa", sum := "c021b9820e5505b586fd411fc2633775a4277844f0af70278a4aa1a87119f1a2", func := "curtilage/curtilagelaw21.DlBack", spec := "dlBack", unfollowed := true, recurses := true, apart := false, narrowed := true }
def DlBackUptoSaid : Prop := dlBackUptoRow.holds Try.pinned (OpenSpec.upto dlBackSpec)

/-- 'curtilagelaw21.DlOrder', WHERE WHAT IT READS IS OF BULK AT MOST 1048576: true; the input reads as it did. -/
def dlOrderUptoRow : OpenClaim := { program := "ytociaidhgefpiaa", sum := "c021b9820e5505b586fd411fc2633775a4277844f0af70278a4aa1a87119f1a2", func := "curtilage/curtilagelaw21.DlOrder", spec := "dlOrder", unfollowed := true, recurses := true, apart := false, narrowed := true }
def DlOrderUptoSaid : Prop := dlOrderUptoRow.holds Try.pinned (OpenSpec.upto dlOrderSpec)

/-- 'curtilagelaw21.DlCounts', WHERE WHAT IT READS IS OF BULK AT MOST 1048576: true; the input reads as it did. -/
def dlCountsUptoRow : OpenClaim := { program := "ytociaidhgefpiaa", sum := "c021b9820e5505b586fd411fc2633775a4277844f0af70278a4aa1a87119f1a2", func := "curtilage/curtilagelaw21.DlCounts", spec := "dlCounts", unfollowed := true, recurses := true, apart := false, narrowed := true }
def DlCountsUptoSaid : Prop := dlCountsUptoRow.holds Try.pinned (OpenSpec.upto dlCountsSpec)

/-- 'curtilagelaw21.DlEither', WHERE WHAT IT READS IS OF BULK AT MOST 1048576: true; the input reads as it did. -/
def dlEitherUptoRow : OpenClaim := { program := "ytociaidhgefpiaa", sum := "c021b9820e5505b586fd411fc2633775a4277844f0af70278a4aa1a87119f1a2", func := "curtilage/curtilagelaw21.DlEither", spec := "dlEither", unfollowed := true, recurses := true, apart := false, narrowed := true }
def DlEitherUptoSaid : Prop := dlEitherUptoRow.holds Try.pinned (OpenSpec.upto dlEitherSpec)

/-- 'curtilagelaw21.DlPlays', WHERE WHAT IT READS IS OF BULK AT MOST 1048576: true; the input reads as it did. -/
def dlPlaysUptoRow : OpenClaim := { program := "ytociaidhgefpiaa", sum := "c021b9820e5505b586fd411fc2633775a4277844f0af70278a4aa1a87119f1a2", func := "curtilage/curtilagelaw21.DlPlays", spec := "dlPlays", unfollowed := true, recurses := true, apart := false, narrowed := true }
def DlPlaysUptoSaid : Prop := dlPlaysUptoRow.holds Try.pinned (OpenSpec.upto dlPlaysSpec)

end Rows
end Go.Proofs.Ytociaidhgefpiaa
