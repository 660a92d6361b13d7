/-
  No cell of these rows narrows 'for every input' (looked for: loops, veiled, ifaces, maps, wideKeys, modest, calm, conditions, laid).
  DERIVED. THE GIVEN ROWS OF THIS SEAT. 4 by the template 'for every input the law returns true; each argument reads behind the call as it read before'; 0 by the template 'total and deterministic' (their statements: YtchjhnflogojcaaTotals.lean).
  GIVEN WITH THE SEED: the statements are not yours to turn. If you find one false, say at which input.
  Laid BY PROGRAM, IN A SANDBOX (cutbox-rows.mjs): the forced cells as the released guide's own fill.sh prints them over the translation 43ff1c2ef5859703… (all of the seat's roots in one cut). By AI agents, Wed Nov 11 2026. No macro, syntax, notation, axiom, sorry.
-/
import Derived.Test.YtchjhnflogojcaaChecked
import GoSem.Claim
import GoSem.ClaimJoined
import GoSem.ClaimMapViews
import Derived.JoinedTies
import Derived.KernelRfl
namespace Go.Proofs.Ytchjhnflogojcaa
/- THE CELL 'sum', in the pinned program and in every row, IS THE sha256 OF THE DUMP (.gsa) THAT YtchjhnflogojcaaProg.lean LOADS. Nothing in Lean hashes anything: it is a label: what it is worth is what the hold of that sum in a sandbox is worth. -/
noncomputable def Try.pinned : Pinned := { name := "ytchjhnflogojcaa", sum := "43ff1c2ef5859703ebf78403a695e18355701ee885bffd8604abbe6ec1abafe1", checked := Try.checked }
namespace Rows
def none {H : Type} : Left H := { results := [], args := [] }

/-- 'curtilagelaw22.SweepTouches': WHATEVER THE INPUT: true; the input reads as it did. -/
def sweepTouchesSpec : ChangeSpec := { name := "sweepTouches", fn := fun _ => fun
  | [d1, d2, d3, d4] => { results := [.lit (.bool true)], args := [d1, d2, d3, d4] }
  | _ => none }
def sweepTouchesRow : OpenClaim := { program := "ytchjhnflogojcaa", sum := "43ff1c2ef5859703ebf78403a695e18355701ee885bffd8604abbe6ec1abafe1", func := "curtilage/curtilagelaw22.SweepTouches", spec := "sweepTouches", unfollowed := true, recurses := true, apart := false }
def SweepTouchesSaid : Prop := sweepTouchesRow.holds Try.pinned (OpenSpec.ofChange sweepTouchesSpec)

/-- ITS FALSE NEIGHBOUR: 'it returns false'. Refute it at one input. -/
def sweepTouchesWrong : ChangeSpec := { name := "sweepTouches", fn := fun _ => fun
  | [d1, d2, d3, d4] => { results := [.lit (.bool false)], args := [d1, d2, d3, d4] }
  | _ => none }
def SweepTouchesWrongFalsely : Prop := sweepTouchesRow.holds Try.pinned (OpenSpec.ofChange sweepTouchesWrong)

/-- 'curtilagelaw22.SweepSpared': WHATEVER THE INPUT: true; the input reads as it did. -/
def sweepSparedSpec : ChangeSpec := { name := "sweepSpared", fn := fun _ => fun
  | [d1, d2, d3, d4, d5] => { results := [.lit (.bool true)], args := [d1, d2, d3, d4, d5] }
  | _ => none }
def sweepSparedRow : OpenClaim := { program := "ytchjhnflogojcaa", sum := "43ff1c2ef5859703ebf78403a695e18355701ee885bffd8604abbe6ec1abafe1", func := "curtilage/curtilagelaw22.SweepSpared", spec := "sweepSpared", unfollowed := true, recurses := true, apart := false }
def SweepSparedSaid : Prop := sweepSparedRow.holds Try.pinned (OpenSpec.ofChange sweepSparedSpec)

/-- ITS FALSE NEIGHBOUR: 'it returns false'. Refute it at one input. -/
def sweepSparedWrong : ChangeSpec := { name := "sweepSpared", fn := fun _ => fun
  | [d1, d2, d3, d4, d5] => { results := [.lit (.bool false)], args := [d1, d2, d3, d4, d5] }
  | _ => none }
def SweepSparedWrongFalsely : Prop := sweepSparedRow.holds Try.pinned (OpenSpec.ofChange sweepSparedWrong)

/-- 'curtilagelaw22.SweepBoth': WHATEVER THE INPUT: true; the input reads as it did. -/
def sweepBothSpec : ChangeSpec := { name := "sweepBoth", fn := fun _ => fun
  | [d1, d2, d3, d4, d5, d6] => { results := [.lit (.bool true)], args := [d1, d2, d3, d4, d5, d6] }
  | _ => none }
def sweepBothRow : OpenClaim := { program := "ytchjhnflogojcaa", sum := "43ff1c2ef5859703ebf78403a695e18355701ee885bffd8604abbe6ec1abafe1", func := "curtilage/curtilagelaw22.SweepBoth", spec := "sweepBoth", unfollowed := true, recurses := true, apart := false }
def SweepBothSaid : Prop := sweepBothRow.holds Try.pinned (OpenSpec.ofChange sweepBothSpec)

/-- ITS FALSE NEIGHBOUR: 'it returns false'. Refute it at one input. -/
def sweepBothWrong : ChangeSpec := { name := "sweepBoth", fn := fun _ => fun
  | [d1, d2, d3, d4, d5, d6] => { results := [.lit (.bool false)], args := [d1, d2, d3, d4, d5, d6] }
  | _ => none }
def SweepBothWrongFalsely : Prop := sweepBothRow.holds Try.pinned (OpenSpec.ofChange sweepBothWrong)

/-- 'curtilagelaw22.SweepPlays': WHATEVER THE INPUT: true; the input reads as it did. -/
def sweepPlaysSpec : ChangeSpec := { name := "sweepPlays", fn := fun _ => fun
  | [d1, d2, d3, d4, d5] => { results := [.lit (.bool true)], args := [d1, d2, d3, d4, d5] }
  | _ => none }
def sweepPlaysRow : OpenClaim := { program := "ytchjhnflogojcaa", sum := "43ff1c2ef5859703ebf78403a695e18355701ee885bffd8604abbe6ec1abafe1", func := "curtilage/curtilagelaw22.SweepPlays", spec := "sweepPlays", unfollowed := true, recurses := true, apart := false }
def SweepPlaysSaid : Prop := sweepPlaysRow.holds Try.pinned (OpenSpec.ofChange sweepPlaysSpec)

/-- ITS FALSE NEIGHBOUR: 'it returns false'. Refute it at one input. -/
def sweepPlaysWrong : ChangeSpec := { name := "sweepPlays", fn := fun _ => fun
  | [d1, d2, d3, d4, d5] => { results := [.lit (.bool false)], args := [d1, d2, d3, d4, d5] }
  | _ => none }
def SweepPlaysWrongFalsely : Prop := sweepPlaysRow.holds Try.pinned (OpenSpec.ofChange sweepPlaysWrong)

/- THE SECOND FORM. 'bulk': how many values and letters a reading holds, each counted each time it is reached (what is shared counts as often as it is met; a slice's spare places count too). A statement '..UptoSaid' is the law's where the arguments, and the package variables that the reading takes, are together of bulk at most 1048576: NARROWER than '..Said'. Prove '..Said' where nothing that the law and all that it calls make is longer than what came in: it says more and counts as full. Else prove '..UptoSaid'. A law counts once. -/
mutual
def uptoBulk {H : Type} : DataW H → Nat
  | .lit (.string bytes) => bytes.length + 1
  | .lit _ => 1
  | .nil => 1
  | .ptr d => uptoBulk d + 1
  | .slice elems spare => uptoBulkAll elems + uptoBulkAll spare + 1
  | .agg parts => uptoBulkAll parts + 1
  | .iface _ d => uptoBulk d + 1
  | .map entries => uptoBulkEntries entries + 1
  | .held _ => 1
def uptoBulkAll {H : Type} : List (DataW H) → Nat
  | [] => 0
  | d :: r => uptoBulk d + uptoBulkAll r
def uptoBulkEntries {H : Type} : List (Lit × DataW H) → Nat
  | [] => 0
  | x :: r => uptoBulkEntry x + uptoBulkEntries r
def uptoBulkEntry {H : Type} : Lit × DataW H → Nat
  | (.string bytes, d) => bytes.length + uptoBulk d + 1
  | (_, d) => uptoBulk d + 1
 end
def uptoSmall : (H : Type) → List (DataW H) → Bool := fun _ ds => decide (uptoBulkAll ds ≤ 1048576)
def OpenSpec.upto (s : _root_.Go.ChangeSpec) : _root_.Go.OpenSpec := { _root_.Go.OpenSpec.ofChange s with cond := some uptoSmall }

/-- 'curtilagelaw22.SweepTouches', WHERE WHAT IT READS IS OF BULK AT MOST 1048576: true; the input reads as it did. -/
def sweepTouchesUptoRow : OpenClaim := { program := "ytchjhnflogojcaa", sum := "43ff1c2ef5859703ebf78403a695e18355701ee885bffd8604abbe6ec1abafe1", func := "curtilage/curtilagelaw22.SweepTouches", spec := "sweepTouches", unfollowed := true, recurses := true, apart := false, narrowed := true }
def SweepTouchesUptoSaid : Prop := sweepTouchesUptoRow.holds Try.pinned (OpenSpec.upto sweepTouchesSpec)

/-- 'curtilagelaw22.SweepSpared', WHERE WHAT IT READS IS OF BULK AT MOST 1048576: true; the input reads as it did. -/
def sweepSparedUptoRow : OpenClaim := { program := "ytchjhnflogojcaa", sum := "43ff1c2ef5859703ebf78403a695e18355701ee885bffd8604abbe6ec1abafe1", func := "curtilage/curtilagelaw22.SweepSpared", spec := "sweepSpared", unfollowed := true, recurses := true, apart := false, narrowed := true }
def SweepSparedUptoSaid : Prop := sweepSparedUptoRow.holds Try.pinned (OpenSpec.upto sweepSparedSpec)

/-- 'curtilagelaw22.SweepBoth', WHERE WHAT IT READS IS OF BULK AT MOST 1048576: true; the input reads as it did. -/
def sweepBothUptoRow : OpenClaim := { program := "ytchjhnflogojcaa", sum := "43ff1c2ef5859703ebf78403a695e18355701ee885bffd8604abbe6ec1abafe1", func := "curtilage/curtilagelaw22.SweepBoth", spec := "sweepBoth", unfollowed := true, recurses := true, apart := false, narrowed := true }
def SweepBothUptoSaid : Prop := sweepBothUptoRow.holds Try.pinned (OpenSpec.upto sweepBothSpec)

/-- 'curtilagelaw22.SweepPlays', WHERE WHAT IT READS IS OF BULK AT MOST 1048576: true; the input reads as it did. -/
def sweepPlaysUptoRow : OpenClaim := { program := "ytchjhnflogojcaa", sum := "43ff1c2ef5859703ebf78403a695e18355701ee885bffd8604abbe6ec1abafe1", func := "curtilage/curtilagelaw22.SweepPlays", spec := "sweepPlays", unfollowed := true, recurses := true, apart := false, narrowed := true }
def SweepPlaysUptoSaid : Prop := sweepPlaysUptoRow.holds Try.pinned (OpenSpec.upto sweepPlaysSpec)

end Rows
end Go.Proofs.Ytchjhnflogojcaa
