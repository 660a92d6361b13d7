/-
  No cell of these rows narrows 'for every input' (looked for: loops, veiled, ifaces, maps, wideKeys, modest, calm, conditions, laid).
  DERIVED. THE GIVEN ROWS OF THIS SEAT. 5 by the template 'for every input the law returns true; each argument reads behind the call as it read before'; 0 by the template 'total and deterministic' (their statements: YtccndffoljjadaaTotals.lean).
  GIVEN WITH THE SEED: the statements are not yours to turn. If you find one false, say at which input.
  Laid BY PROGRAM, IN A SANDBOX (cutbox-rows.mjs): the forced cells as the released guide's own fill.sh prints them over the translation 793cf50d059e9e92… (all of the seat's roots in one cut). By AI agents, Wed Nov 11 2026. No macro, syntax, notation, axiom, sorry.
-/
import Derived.Test.YtccndffoljjadaaChecked
import GoSem.Claim
import GoSem.ClaimJoined
import GoSem.ClaimMapViews
import Derived.JoinedTies
import Derived.KernelRfl
namespace Go.Proofs.Ytccndffoljjadaa
/- THE CELL 'sum', in the pinned program and in every row, IS THE sha256 OF THE DUMP (.gsa) THAT YtccndffoljjadaaProg.lean LOADS. Nothing in Lean hashes anything: it is a label: what it is worth is what the hold of that sum in a sandbox is worth. -/
noncomputable def Try.pinned : Pinned := { name := "ytccndffoljjadaa", sum := "793cf50d059e9e92a564197a1c68bb95c4f5d8b5c89f61ef93acca695fa32124", checked := Try.checked }
namespace Rows
def none {H : Type} : Left H := { results := [], args := [] }

/-- 'curtilagelaw19.AbiTexts': WHATEVER THE INPUT: true; the input reads as it did. -/
def abiTextsSpec : ChangeSpec := { name := "abiTexts", fn := fun _ => fun
  | [d1, d2, d3, d4, d5] => { results := [.lit (.bool true)], args := [d1, d2, d3, d4, d5] }
  | _ => none }
def abiTextsRow : OpenClaim := { program := "ytccndffoljjadaa", sum := "793cf50d059e9e92a564197a1c68bb95c4f5d8b5c89f61ef93acca695fa32124", func := "curtilage/curtilagelaw19.AbiTexts", spec := "abiTexts", unfollowed := true, recurses := true, apart := false }
def AbiTextsSaid : Prop := abiTextsRow.holds Try.pinned (OpenSpec.ofChange abiTextsSpec)

/-- ITS FALSE NEIGHBOUR: 'it returns false'. Refute it at one input. -/
def abiTextsWrong : ChangeSpec := { name := "abiTexts", fn := fun _ => fun
  | [d1, d2, d3, d4, d5] => { results := [.lit (.bool false)], args := [d1, d2, d3, d4, d5] }
  | _ => none }
def AbiTextsWrongFalsely : Prop := abiTextsRow.holds Try.pinned (OpenSpec.ofChange abiTextsWrong)

/-- 'curtilagelaw19.AbiRoom': WHATEVER THE INPUT: true; the input reads as it did. -/
def abiRoomSpec : ChangeSpec := { name := "abiRoom", fn := fun _ => fun
  | [d1, d2, d3] => { results := [.lit (.bool true)], args := [d1, d2, d3] }
  | _ => none }
def abiRoomRow : OpenClaim := { program := "ytccndffoljjadaa", sum := "793cf50d059e9e92a564197a1c68bb95c4f5d8b5c89f61ef93acca695fa32124", func := "curtilage/curtilagelaw19.AbiRoom", spec := "abiRoom", unfollowed := true, recurses := true, apart := false }
def AbiRoomSaid : Prop := abiRoomRow.holds Try.pinned (OpenSpec.ofChange abiRoomSpec)

/-- ITS FALSE NEIGHBOUR: 'it returns false'. Refute it at one input. -/
def abiRoomWrong : ChangeSpec := { name := "abiRoom", fn := fun _ => fun
  | [d1, d2, d3] => { results := [.lit (.bool false)], args := [d1, d2, d3] }
  | _ => none }
def AbiRoomWrongFalsely : Prop := abiRoomRow.holds Try.pinned (OpenSpec.ofChange abiRoomWrong)

/-- 'curtilagelaw19.AbiNeeds': WHATEVER THE INPUT: true; the input reads as it did. -/
def abiNeedsSpec : ChangeSpec := { name := "abiNeeds", fn := fun _ => fun
  | [d1, d2, d3, d4] => { results := [.lit (.bool true)], args := [d1, d2, d3, d4] }
  | _ => none }
def abiNeedsRow : OpenClaim := { program := "ytccndffoljjadaa", sum := "793cf50d059e9e92a564197a1c68bb95c4f5d8b5c89f61ef93acca695fa32124", func := "curtilage/curtilagelaw19.AbiNeeds", spec := "abiNeeds", unfollowed := true, recurses := true, apart := false }
def AbiNeedsSaid : Prop := abiNeedsRow.holds Try.pinned (OpenSpec.ofChange abiNeedsSpec)

/-- ITS FALSE NEIGHBOUR: 'it returns false'. Refute it at one input. -/
def abiNeedsWrong : ChangeSpec := { name := "abiNeeds", fn := fun _ => fun
  | [d1, d2, d3, d4] => { results := [.lit (.bool false)], args := [d1, d2, d3, d4] }
  | _ => none }
def AbiNeedsWrongFalsely : Prop := abiNeedsRow.holds Try.pinned (OpenSpec.ofChange abiNeedsWrong)

/-- 'curtilagelaw19.AbiLess': WHATEVER THE INPUT: true; the input reads as it did. -/
def abiLessSpec : ChangeSpec := { name := "abiLess", fn := fun _ => fun
  | [d1, d2, d3, d4, d5, d6] => { results := [.lit (.bool true)], args := [d1, d2, d3, d4, d5, d6] }
  | _ => none }
def abiLessRow : OpenClaim := { program := "ytccndffoljjadaa", sum := "793cf50d059e9e92a564197a1c68bb95c4f5d8b5c89f61ef93acca695fa32124", func := "curtilage/curtilagelaw19.AbiLess", spec := "abiLess", unfollowed := true, recurses := true, apart := false }
def AbiLessSaid : Prop := abiLessRow.holds Try.pinned (OpenSpec.ofChange abiLessSpec)

/-- ITS FALSE NEIGHBOUR: 'it returns false'. Refute it at one input. -/
def abiLessWrong : ChangeSpec := { name := "abiLess", fn := fun _ => fun
  | [d1, d2, d3, d4, d5, d6] => { results := [.lit (.bool false)], args := [d1, d2, d3, d4, d5, d6] }
  | _ => none }
def AbiLessWrongFalsely : Prop := abiLessRow.holds Try.pinned (OpenSpec.ofChange abiLessWrong)

/-- 'curtilagelaw19.AbiBuilds': WHATEVER THE INPUT: true; the input reads as it did. -/
def abiBuildsSpec : ChangeSpec := { name := "abiBuilds", fn := fun _ => fun
  | [d1, d2, d3, d4, d5, d6] => { results := [.lit (.bool true)], args := [d1, d2, d3, d4, d5, d6] }
  | _ => none }
def abiBuildsRow : OpenClaim := { program := "ytccndffoljjadaa", sum := "793cf50d059e9e92a564197a1c68bb95c4f5d8b5c89f61ef93acca695fa32124", func := "curtilage/curtilagelaw19.AbiBuilds", spec := "abiBuilds", unfollowed := true, recurses := true, apart := false }
def AbiBuildsSaid : Prop := abiBuildsRow.holds Try.pinned (OpenSpec.ofChange abiBuildsSpec)

/-- ITS FALSE NEIGHBOUR: 'it returns false'. Refute it at one input. -/
def abiBuildsWrong : ChangeSpec := { name := "abiBuilds", fn := fun _ => fun
  | [d1, d2, d3, d4, d5, d6] => { results := [.lit (.bool false)], args := [d1, d2, d3, d4, d5, d6] }
  | _ => none }
def AbiBuildsWrongFalsely : Prop := abiBuildsRow.holds Try.pinned (OpenSpec.ofChange abiBuildsWrong)

/- THE SECOND FORM. 'bulk': how many values and letters a reading holds, each counted each time it is reached (what is shared counts as often as it is met; a slice's spare places count too). A statement '..UptoSaid' is the law's where the arguments, and the package variables that the reading takes, are together of bulk at most 1048576: NARROWER than '..Said'. Prove '..Said' where nothing that the law and all that it calls make is longer than what came in: it says more and counts as full. Else prove '..UptoSaid'. A law counts once. -/
mutual
def uptoBulk {H : Type} : DataW H → Nat
  | .lit (.string bytes) => bytes.length + 1
  | .lit _ => 1
  | .nil => 1
  | .ptr d => uptoBulk d + 1
  | .slice elems spare => uptoBulkAll elems + uptoBulkAll spare + 1
  | .agg parts => uptoBulkAll parts + 1
  | .iface _ d => uptoBulk d + 1
  | .map entries => uptoBulkEntries entries + 1
  | .held _ => 1
def uptoBulkAll {H : Type} : List (DataW H) → Nat
  | [] => 0
  | d :: r => uptoBulk d + uptoBulkAll r
def uptoBulkEntries {H : Type} : List (Lit × DataW H) → Nat
  | [] => 0
  | x :: r => uptoBulkEntry x + uptoBulkEntries r
def uptoBulkEntry {H : Type} : Lit × DataW H → Nat
  | (.string bytes, d) => bytes.length + uptoBulk d + 1
  | (_, d) => uptoBulk d + 1
 end
def uptoSmall : (H : Type) → List (DataW H) → Bool := fun _ ds => decide (uptoBulkAll ds ≤ 1048576)
def OpenSpec.upto (s : _root_.Go.ChangeSpec) : _root_.Go.OpenSpec := { _root_.Go.OpenSpec.ofChange s with cond := some uptoSmall }

/-- 'curtilagelaw19.AbiTexts', WHERE WHAT IT READS IS OF BULK AT MOST 1048576: true; the input reads as it did. -/
def abiTextsUptoRow : OpenClaim := { program := "ytccndffoljjadaa", sum := "793cf50d059e9e92a564197a1c68bb95c4f5d8b5c89f61ef93acca695fa32124", func := "curtilage/curtilagelaw19.AbiTexts", spec := "abiTexts", unfollowed := true, recurses := true, apart := false, narrowed := true }
def AbiTextsUptoSaid : Prop := abiTextsUptoRow.holds Try.pinned (OpenSpec.upto abiTextsSpec)

/-- 'curtilagelaw19.AbiRoom', WHERE WHAT IT READS IS OF BULK AT MOST 1048576: true; the input reads as it did. -/
def abiRoomUptoRow : OpenClaim := { program := "ytccndffoljjadaa", sum := "793cf50d059e9e92a564197a1c68bb95c4f5d8b5c89f61ef93acca695fa32124", func := "curtilage/curtilagelaw19.AbiRoom", spec := "abiRoom", unfollowed := true, recurses := true, apart := false, narrowed := true }
def AbiRoomUptoSaid : Prop := abiRoomUptoRow.holds Try.pinned (OpenSpec.upto abiRoomSpec)

/-- 'curtilagelaw19.AbiNeeds', WHERE WHAT IT READS IS OF BULK AT MOST 1048576: true; the input reads as it did. -/
def abiNeedsUptoRow : OpenClaim := { program := "ytccndffoljjadaa", sum := "793cf50d059e9e92a564197a1c68bb95c4f5d8b5c89f61ef93acca695fa32124", func := "curtilage/curtilagelaw19.AbiNeeds", spec := "abiNeeds", unfollowed := true, recurses := true, apart := false, narrowed := true }
def AbiNeedsUptoSaid : Prop := abiNeedsUptoRow.holds Try.pinned (OpenSpec.upto abiNeedsSpec)

/-- 'curtilagelaw19.AbiLess', WHERE WHAT IT READS IS OF BULK AT MOST 1048576: true; the input reads as it did. -/
def abiLessUptoRow : OpenClaim := { program := "ytccndffoljjadaa", sum := "793cf50d059e9e92a564197a1c68bb95c4f5d8b5c89f61ef93acca695fa32124", func := "curtilage/curtilagelaw19.AbiLess", spec := "abiLess", unfollowed := true, recurses := true, apart := false, narrowed := true }
def AbiLessUptoSaid : Prop := abiLessUptoRow.holds Try.pinned (OpenSpec.upto abiLessSpec)

/-- 'curtilagelaw19.AbiBuilds', WHERE WHAT IT READS IS OF BULK AT MOST 1048576: true; the input reads as it did. -/
def abiBuildsUptoRow : OpenClaim := { program := "ytccndffoljjadaa", sum := "793cf50d059e9e92a564197a1c68bb95c4f5d8b5c89f61ef93acca695fa32124", func := "curtilage/curtilagelaw19.AbiBuilds", spec := "abiBuilds", unfollowed := true, recurses := true, apart := false, narrowed := true }
def AbiBuildsUptoSaid : Prop := abiBuildsUptoRow.holds Try.pinned (OpenSpec.upto abiBuildsSpec)

end Rows
end Go.Proofs.Ytccndffoljjadaa
