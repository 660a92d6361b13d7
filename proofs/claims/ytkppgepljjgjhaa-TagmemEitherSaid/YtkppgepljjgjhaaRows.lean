/-
  No cell of these rows narrows 'for every input' (looked for: loops, veiled, ifaces, maps, wideKeys, modest, calm, conditions, laid).
  DERIVED. THE GIVEN ROWS OF THIS SEAT. 7 by the template 'for every input the law returns true; each argument reads behind the call as it read before'; 0 by the template 'total and deterministic' (their statements: YtkppgepljjgjhaaTotals.lean).
  GIVEN WITH THE SEED: the statements are not yours to turn. If you find one false, say at which input.
  Laid BY PROGRAM, IN A SANDBOX (cutbox-rows.mjs): the forced cells as the released guide's own fill.sh prints them over the translation 30db9d442ceb7595… (all of the seat's roots in one cut). By AI agents, Wed Nov 11 2026. No macro, syntax, notation, axiom, sorry.
-/
import Derived.Test.YtkppgepljjgjhaaChecked
import GoSem.Claim
import GoSem.ClaimJoined
import GoSem.ClaimMapViews
import Derived.JoinedTies
import Derived.KernelRfl
namespace Go.Proofs.Ytkppgepljjgjhaa
/- THE CELL 'sum', in the pinned program and in every row, IS THE sha256 OF THE DUMP (.gsa) THAT YtkppgepljjgjhaaProg.lean LOADS. Nothing in Lean hashes anything: it is a label: what it is worth is what the hold of that sum in a sandbox is worth. -/
noncomputable def Try.pinned : Pinned := { name := "ytkppgepljjgjhaa", sum := "30db9d442ceb7595db008438b8b55a8ae62e06b34bda475715cf1ac726a4ab31", checked := Try.checked }
namespace Rows
def none {H : Type} : Left H := { results := [], args := [] }

/-- 'curtilagelaw03.TagmemPlays': WHATEVER THE INPUT: true; the input reads as it did. -/
def tagmemPlaysSpec : ChangeSpec := { name := "tagmemPlays", fn := fun _ => fun
  | [d1, d2] => { results := [.lit (.bool true)], args := [d1, d2] }
  | _ => none }
def tagmemPlaysRow : OpenClaim := { program := "ytkppgepljjgjhaa", sum := "30db9d442ceb7595db008438b8b55a8ae62e06b34bda475715cf1ac726a4ab31", func := "curtilage/curtilagelaw03.TagmemPlays", spec := "tagmemPlays", recurses := true, apart := false }
def TagmemPlaysSaid : Prop := tagmemPlaysRow.holds Try.pinned (OpenSpec.ofChange tagmemPlaysSpec)

/-- ITS FALSE NEIGHBOUR: 'it returns false'. Refute it at one input. -/
def tagmemPlaysWrong : ChangeSpec := { name := "tagmemPlays", fn := fun _ => fun
  | [d1, d2] => { results := [.lit (.bool false)], args := [d1, d2] }
  | _ => none }
def TagmemPlaysWrongFalsely : Prop := tagmemPlaysRow.holds Try.pinned (OpenSpec.ofChange tagmemPlaysWrong)

/-- 'curtilagelaw03.TagmemStored': WHATEVER THE INPUT: true; the input reads as it did. -/
def tagmemStoredSpec : ChangeSpec := { name := "tagmemStored", fn := fun _ => fun
  | [d1, d2, d3, d4, d5] => { results := [.lit (.bool true)], args := [d1, d2, d3, d4, d5] }
  | _ => none }
def tagmemStoredRow : OpenClaim := { program := "ytkppgepljjgjhaa", sum := "30db9d442ceb7595db008438b8b55a8ae62e06b34bda475715cf1ac726a4ab31", func := "curtilage/curtilagelaw03.TagmemStored", spec := "tagmemStored", recurses := true, apart := false }
def TagmemStoredSaid : Prop := tagmemStoredRow.holds Try.pinned (OpenSpec.ofChange tagmemStoredSpec)

/-- ITS FALSE NEIGHBOUR: 'it returns false'. Refute it at one input. -/
def tagmemStoredWrong : ChangeSpec := { name := "tagmemStored", fn := fun _ => fun
  | [d1, d2, d3, d4, d5] => { results := [.lit (.bool false)], args := [d1, d2, d3, d4, d5] }
  | _ => none }
def TagmemStoredWrongFalsely : Prop := tagmemStoredRow.holds Try.pinned (OpenSpec.ofChange tagmemStoredWrong)

/-- 'curtilagelaw03.TagmemSpared': WHATEVER THE INPUT: true; the input reads as it did. -/
def tagmemSparedSpec : ChangeSpec := { name := "tagmemSpared", fn := fun _ => fun
  | [d1, d2, d3] => { results := [.lit (.bool true)], args := [d1, d2, d3] }
  | _ => none }
def tagmemSparedRow : OpenClaim := { program := "ytkppgepljjgjhaa", sum := "30db9d442ceb7595db008438b8b55a8ae62e06b34bda475715cf1ac726a4ab31", func := "curtilage/curtilagelaw03.TagmemSpared", spec := "tagmemSpared", recurses := true, apart := false }
def TagmemSparedSaid : Prop := tagmemSparedRow.holds Try.pinned (OpenSpec.ofChange tagmemSparedSpec)

/-- ITS FALSE NEIGHBOUR: 'it returns false'. Refute it at one input. -/
def tagmemSparedWrong : ChangeSpec := { name := "tagmemSpared", fn := fun _ => fun
  | [d1, d2, d3] => { results := [.lit (.bool false)], args := [d1, d2, d3] }
  | _ => none }
def TagmemSparedWrongFalsely : Prop := tagmemSparedRow.holds Try.pinned (OpenSpec.ofChange tagmemSparedWrong)

/-- 'curtilagelaw03.TagmemFresh': WHATEVER THE INPUT: true; the input reads as it did. -/
def tagmemFreshSpec : ChangeSpec := { name := "tagmemFresh", fn := fun _ => fun
  | [d1, d2, d3] => { results := [.lit (.bool true)], args := [d1, d2, d3] }
  | _ => none }
def tagmemFreshRow : OpenClaim := { program := "ytkppgepljjgjhaa", sum := "30db9d442ceb7595db008438b8b55a8ae62e06b34bda475715cf1ac726a4ab31", func := "curtilage/curtilagelaw03.TagmemFresh", spec := "tagmemFresh", recurses := true, apart := false }
def TagmemFreshSaid : Prop := tagmemFreshRow.holds Try.pinned (OpenSpec.ofChange tagmemFreshSpec)

/-- ITS FALSE NEIGHBOUR: 'it returns false'. Refute it at one input. -/
def tagmemFreshWrong : ChangeSpec := { name := "tagmemFresh", fn := fun _ => fun
  | [d1, d2, d3] => { results := [.lit (.bool false)], args := [d1, d2, d3] }
  | _ => none }
def TagmemFreshWrongFalsely : Prop := tagmemFreshRow.holds Try.pinned (OpenSpec.ofChange tagmemFreshWrong)

/-- 'curtilagelaw03.TagmemApart': WHATEVER THE INPUT: true; the input reads as it did. -/
def tagmemApartSpec : ChangeSpec := { name := "tagmemApart", fn := fun _ => fun
  | [d1, d2, d3, d4, d5] => { results := [.lit (.bool true)], args := [d1, d2, d3, d4, d5] }
  | _ => none }
def tagmemApartRow : OpenClaim := { program := "ytkppgepljjgjhaa", sum := "30db9d442ceb7595db008438b8b55a8ae62e06b34bda475715cf1ac726a4ab31", func := "curtilage/curtilagelaw03.TagmemApart", spec := "tagmemApart", recurses := true, apart := false }
def TagmemApartSaid : Prop := tagmemApartRow.holds Try.pinned (OpenSpec.ofChange tagmemApartSpec)

/-- ITS FALSE NEIGHBOUR: 'it returns false'. Refute it at one input. -/
def tagmemApartWrong : ChangeSpec := { name := "tagmemApart", fn := fun _ => fun
  | [d1, d2, d3, d4, d5] => { results := [.lit (.bool false)], args := [d1, d2, d3, d4, d5] }
  | _ => none }
def TagmemApartWrongFalsely : Prop := tagmemApartRow.holds Try.pinned (OpenSpec.ofChange tagmemApartWrong)

/-- 'curtilagelaw03.TagmemPut': WHATEVER THE INPUT: true; the input reads as it did. -/
def tagmemPutSpec : ChangeSpec := { name := "tagmemPut", fn := fun _ => fun
  | [d1, d2, d3, d4] => { results := [.lit (.bool true)], args := [d1, d2, d3, d4] }
  | _ => none }
def tagmemPutRow : OpenClaim := { program := "ytkppgepljjgjhaa", sum := "30db9d442ceb7595db008438b8b55a8ae62e06b34bda475715cf1ac726a4ab31", func := "curtilage/curtilagelaw03.TagmemPut", spec := "tagmemPut", recurses := true, apart := false }
def TagmemPutSaid : Prop := tagmemPutRow.holds Try.pinned (OpenSpec.ofChange tagmemPutSpec)

/-- ITS FALSE NEIGHBOUR: 'it returns false'. Refute it at one input. -/
def tagmemPutWrong : ChangeSpec := { name := "tagmemPut", fn := fun _ => fun
  | [d1, d2, d3, d4] => { results := [.lit (.bool false)], args := [d1, d2, d3, d4] }
  | _ => none }
def TagmemPutWrongFalsely : Prop := tagmemPutRow.holds Try.pinned (OpenSpec.ofChange tagmemPutWrong)

/-- 'curtilagelaw03.TagmemEither': WHATEVER THE INPUT: true; the input reads as it did. -/
def tagmemEitherSpec : ChangeSpec := { name := "tagmemEither", fn := fun _ => fun
  | [d1, d2, d3, d4, d5, d6] => { results := [.lit (.bool true)], args := [d1, d2, d3, d4, d5, d6] }
  | _ => none }
def tagmemEitherRow : OpenClaim := { program := "ytkppgepljjgjhaa", sum := "30db9d442ceb7595db008438b8b55a8ae62e06b34bda475715cf1ac726a4ab31", func := "curtilage/curtilagelaw03.TagmemEither", spec := "tagmemEither", recurses := true, apart := false }
def TagmemEitherSaid : Prop := tagmemEitherRow.holds Try.pinned (OpenSpec.ofChange tagmemEitherSpec)

/-- ITS FALSE NEIGHBOUR: 'it returns false'. Refute it at one input. -/
def tagmemEitherWrong : ChangeSpec := { name := "tagmemEither", fn := fun _ => fun
  | [d1, d2, d3, d4, d5, d6] => { results := [.lit (.bool false)], args := [d1, d2, d3, d4, d5, d6] }
  | _ => none }
def TagmemEitherWrongFalsely : Prop := tagmemEitherRow.holds Try.pinned (OpenSpec.ofChange tagmemEitherWrong)

/- THE SECOND FORM. 'bulk': how many values and letters a reading holds, each counted each time it is reached (what is shared counts as often as it is met; a slice's spare places count too). A statement '..UptoSaid' is the law's where the arguments, and the package variables that the reading takes, are together of bulk at most 1048576: NARROWER than '..Said'. Prove '..Said' where nothing that the law and all that it calls make is longer than what came in: it says more and counts as full. Else prove '..UptoSaid'. A law counts once. -/
mutual
def uptoBulk {H : Type} : DataW H → Nat
  | .lit (.string bytes) => bytes.length + 1
  | .lit _ => 1
  | .nil => 1
  | .ptr d => uptoBulk d + 1
  | .slice elems spare => uptoBulkAll elems + uptoBulkAll spare + 1
  | .agg parts => uptoBulkAll parts + 1
  | .iface _ d => uptoBulk d + 1
  | .map entries => uptoBulkEntries entries + 1
  | .held _ => 1
def uptoBulkAll {H : Type} : List (DataW H) → Nat
  | [] => 0
  | d :: r => uptoBulk d + uptoBulkAll r
def uptoBulkEntries {H : Type} : List (Lit × DataW H) → Nat
  | [] => 0
  | x :: r => uptoBulkEntry x + uptoBulkEntries r
def uptoBulkEntry {H : Type} : Lit × DataW H → Nat
  | (.string bytes, d) => bytes.length + uptoBulk d + 1
  | (_, d) => uptoBulk d + 1
 end
def uptoSmall : (H : Type) → List (DataW H) → Bool := fun _ ds => decide (uptoBulkAll ds ≤ 1048576)
def OpenSpec.upto (s : _root_.Go.ChangeSpec) : _root_.Go.OpenSpec := { _root_.Go.OpenSpec.ofChange s with cond := some uptoSmall }

/-- 'curtilagelaw03.TagmemPlays', WHERE WHAT IT READS IS OF BULK AT MOST 1048576: true; the input reads as it did. -/
def tagmemPlaysUptoRow : OpenClaim := { program := "ytkppgepljjgjhaa", sum := "30db9d442ceb7595db008438b8b55a8ae62e06b34bda475715cf1ac726a4ab31", func := "curtilage/curtilagelaw03.TagmemPlays", spec := "tagmemPlays", recurses := true, apart := false, narrowed := true }
def TagmemPlaysUptoSaid : Prop := tagmemPlaysUptoRow.holds Try.pinned (OpenSpec.upto tagmemPlaysSpec)

/-- 'curtilagelaw03.TagmemStored', WHERE WHAT IT READS IS OF BULK AT MOST 1048576: true; the input reads as it did. -/
def tagmemStoredUptoRow : OpenClaim := { program := "ytkppgepljjgjhaa", sum := "30db9d442ceb7595db008438b8b55a8ae62e06b34bda475715cf1ac726a4ab31", func := "curtilage/curtilagelaw03.TagmemStored", spec := "tagmemStored", recurses := true, apart := false, narrowed := true }
def TagmemStoredUptoSaid : Prop := tagmemStoredUptoRow.holds Try.pinned (OpenSpec.upto tagmemStoredSpec)

/-- 'curtilagelaw03.TagmemSpared', WHERE WHAT IT READS IS OF BULK AT MOST 1048576: true; the input reads as it did. -/
def tagmemSparedUptoRow : OpenClaim := { program := "ytkppgepljjgjhaa", sum := "30db9d442ceb7595db008438b8b55a8ae62e06b34bda475715cf1ac726a4ab31", func := "curtilage/curtilagelaw03.TagmemSpared", spec := "tagmemSpared", recurses := true, apart := false, narrowed := true }
def TagmemSparedUptoSaid : Prop := tagmemSparedUptoRow.holds Try.pinned (OpenSpec.upto tagmemSparedSpec)

/-- 'curtilagelaw03.TagmemFresh', WHERE WHAT IT READS IS OF BULK AT MOST 1048576: true; the input reads as it did. -/
def tagmemFreshUptoRow : OpenClaim := { program := "ytkppgepljjgjhaa", sum := "30db9d442ceb7595db008438b8b55a8ae62e06b34bda475715cf1ac726a4ab31", func := "curtilage/curtilagelaw03.TagmemFresh", spec := "tagmemFresh", recurses := true, apart := false, narrowed := true }
def TagmemFreshUptoSaid : Prop := tagmemFreshUptoRow.holds Try.pinned (OpenSpec.upto tagmemFreshSpec)

/-- 'curtilagelaw03.TagmemApart', WHERE WHAT IT READS IS OF BULK AT MOST 1048576: true; the input reads as it did. -/
def tagmemApartUptoRow : OpenClaim := { program := "ytkppgepljjgjhaa", sum := "30db9d442ceb7595db008438b8b55a8ae62e06b34bda475715cf1ac726a4ab31", func := "curtilage/curtilagelaw03.TagmemApart", spec := "tagmemApart", recurses := true, apart := false, narrowed := true }
def TagmemApartUptoSaid : Prop := tagmemApartUptoRow.holds Try.pinned (OpenSpec.upto tagmemApartSpec)

/-- 'curtilagelaw03.TagmemPut', WHERE WHAT IT READS IS OF BULK AT MOST 1048576: true; the input reads as it did. -/
def tagmemPutUptoRow : OpenClaim := { program := "ytkppgepljjgjhaa", sum := "30db9d442ceb7595db008438b8b55a8ae62e06b34bda475715cf1ac726a4ab31", func := "curtilage/curtilagelaw03.TagmemPut", spec := "tagmemPut", recurses := true, apart := false, narrowed := true }
def TagmemPutUptoSaid : Prop := tagmemPutUptoRow.holds Try.pinned (OpenSpec.upto tagmemPutSpec)

/-- 'curtilagelaw03.TagmemEither', WHERE WHAT IT READS IS OF BULK AT MOST 1048576: true; the input reads as it did. -/
def tagmemEitherUptoRow : OpenClaim := { program := "ytkppgepljjgjhaa", sum := "30db9d442ceb7595db008438b8b55a8ae62e06b34bda475715cf1ac726a4ab31", func := "curtilage/curtilagelaw03.TagmemEither", spec := "tagmemEither", recurses := true, apart := false, narrowed := true }
def TagmemEitherUptoSaid : Prop := tagmemEitherUptoRow.holds Try.pinned (OpenSpec.upto tagmemEitherSpec)

end Rows
end Go.Proofs.Ytkppgepljjgjhaa
