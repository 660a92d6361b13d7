/-
  No cell of these rows narrows 'for every input' (looked for: loops, veiled, ifaces, maps, wideKeys, modest, calm, conditions, laid).
  DERIVED. THE GIVEN ROWS OF THIS SEAT. 6 by the template 'for every input the law returns true; each argument reads behind the call as it read before'; 0 by the template 'total and deterministic' (their statements: YtcoknhomlbbimaaTotals.lean).
  GIVEN WITH THE SEED: the statements are not yours to turn. If you find one false, say at which input.
  Laid BY PROGRAM, IN A SANDBOX (cutbox-rows.mjs): the forced cells as the released guide's own fill.sh prints them over the translation 49a909c4d88c0145… (all of the seat's roots in one cut). By AI agents, Wed Nov 11 2026. No macro, syntax, notation, axiom, sorry.
-/
import Derived.Test.YtcoknhomlbbimaaChecked
import GoSem.Claim
import GoSem.ClaimJoined
import GoSem.ClaimMapViews
import Derived.JoinedTies
import Derived.KernelRfl
namespace Go.Proofs.Ytcoknhomlbbimaa
/- THE CELL 'sum', in the pinned program and in every row, IS THE sha256 OF THE DUMP (.gsa) THAT YtcoknhomlbbimaaProg.lean LOADS. Nothing in Lean hashes anything: it is a label: what it is worth is what the hold of that sum in a sandbox is worth. -/
noncomputable def Try.pinned : Pinned := { name := "ytcoknhomlbbimaa", sum := "49a909c4d88c01453b15fd31648c5d5aaab2429cad72f4c259fb80d9926b5d36", checked := Try.checked }
namespace Rows
def none {H : Type} : Left H := { results := [], args := [] }

/-- 'curtilagelaw12.HashOf': WHATEVER THE INPUT: true; the input reads as it did. -/
def hashOfSpec : ChangeSpec := { name := "hashOf", fn := fun _ => fun
  | [d1, d2] => { results := [.lit (.bool true)], args := [d1, d2] }
  | _ => none }
def hashOfRow : OpenClaim := { program := "ytcoknhomlbbimaa", sum := "49a909c4d88c01453b15fd31648c5d5aaab2429cad72f4c259fb80d9926b5d36", func := "curtilage/curtilagelaw12.HashOf", spec := "hashOf", unfollowed := true, recurses := true, apart := false }
def HashOfSaid : Prop := hashOfRow.holds Try.pinned (OpenSpec.ofChange hashOfSpec)

/-- ITS FALSE NEIGHBOUR: 'it returns false'. Refute it at one input. -/
def hashOfWrong : ChangeSpec := { name := "hashOf", fn := fun _ => fun
  | [d1, d2] => { results := [.lit (.bool false)], args := [d1, d2] }
  | _ => none }
def HashOfWrongFalsely : Prop := hashOfRow.holds Try.pinned (OpenSpec.ofChange hashOfWrong)

/-- 'curtilagelaw12.HashFinds': WHATEVER THE INPUT: true; the input reads as it did. -/
def hashFindsSpec : ChangeSpec := { name := "hashFinds", fn := fun _ => fun
  | [d1, d2, d3, d4] => { results := [.lit (.bool true)], args := [d1, d2, d3, d4] }
  | _ => none }
def hashFindsRow : OpenClaim := { program := "ytcoknhomlbbimaa", sum := "49a909c4d88c01453b15fd31648c5d5aaab2429cad72f4c259fb80d9926b5d36", func := "curtilage/curtilagelaw12.HashFinds", spec := "hashFinds", unfollowed := true, recurses := true, apart := false }
def HashFindsSaid : Prop := hashFindsRow.holds Try.pinned (OpenSpec.ofChange hashFindsSpec)

/-- ITS FALSE NEIGHBOUR: 'it returns false'. Refute it at one input. -/
def hashFindsWrong : ChangeSpec := { name := "hashFinds", fn := fun _ => fun
  | [d1, d2, d3, d4] => { results := [.lit (.bool false)], args := [d1, d2, d3, d4] }
  | _ => none }
def HashFindsWrongFalsely : Prop := hashFindsRow.holds Try.pinned (OpenSpec.ofChange hashFindsWrong)

/-- 'curtilagelaw12.HashAlong': WHATEVER THE INPUT: true; the input reads as it did. -/
def hashAlongSpec : ChangeSpec := { name := "hashAlong", fn := fun _ => fun
  | [d1, d2] => { results := [.lit (.bool true)], args := [d1, d2] }
  | _ => none }
def hashAlongRow : OpenClaim := { program := "ytcoknhomlbbimaa", sum := "49a909c4d88c01453b15fd31648c5d5aaab2429cad72f4c259fb80d9926b5d36", func := "curtilage/curtilagelaw12.HashAlong", spec := "hashAlong", unfollowed := true, recurses := true, apart := false }
def HashAlongSaid : Prop := hashAlongRow.holds Try.pinned (OpenSpec.ofChange hashAlongSpec)

/-- ITS FALSE NEIGHBOUR: 'it returns false'. Refute it at one input. -/
def hashAlongWrong : ChangeSpec := { name := "hashAlong", fn := fun _ => fun
  | [d1, d2] => { results := [.lit (.bool false)], args := [d1, d2] }
  | _ => none }
def HashAlongWrongFalsely : Prop := hashAlongRow.holds Try.pinned (OpenSpec.ofChange hashAlongWrong)

/-- 'curtilagelaw12.HashMore': WHATEVER THE INPUT: true; the input reads as it did. -/
def hashMoreSpec : ChangeSpec := { name := "hashMore", fn := fun _ => fun
  | [d1, d2, d3, d4, d5] => { results := [.lit (.bool true)], args := [d1, d2, d3, d4, d5] }
  | _ => none }
def hashMoreRow : OpenClaim := { program := "ytcoknhomlbbimaa", sum := "49a909c4d88c01453b15fd31648c5d5aaab2429cad72f4c259fb80d9926b5d36", func := "curtilage/curtilagelaw12.HashMore", spec := "hashMore", unfollowed := true, recurses := true, apart := false }
def HashMoreSaid : Prop := hashMoreRow.holds Try.pinned (OpenSpec.ofChange hashMoreSpec)

/-- ITS FALSE NEIGHBOUR: 'it returns false'. Refute it at one input. -/
def hashMoreWrong : ChangeSpec := { name := "hashMore", fn := fun _ => fun
  | [d1, d2, d3, d4, d5] => { results := [.lit (.bool false)], args := [d1, d2, d3, d4, d5] }
  | _ => none }
def HashMoreWrongFalsely : Prop := hashMoreRow.holds Try.pinned (OpenSpec.ofChange hashMoreWrong)

/-- 'curtilagelaw12.HashMakes': WHATEVER THE INPUT: true; the input reads as it did. -/
def hashMakesSpec : ChangeSpec := { name := "hashMakes", fn := fun _ => fun
  | [d1, d2] => { results := [.lit (.bool true)], args := [d1, d2] }
  | _ => none }
def hashMakesRow : OpenClaim := { program := "ytcoknhomlbbimaa", sum := "49a909c4d88c01453b15fd31648c5d5aaab2429cad72f4c259fb80d9926b5d36", func := "curtilage/curtilagelaw12.HashMakes", spec := "hashMakes", unfollowed := true, recurses := true, apart := false }
def HashMakesSaid : Prop := hashMakesRow.holds Try.pinned (OpenSpec.ofChange hashMakesSpec)

/-- ITS FALSE NEIGHBOUR: 'it returns false'. Refute it at one input. -/
def hashMakesWrong : ChangeSpec := { name := "hashMakes", fn := fun _ => fun
  | [d1, d2] => { results := [.lit (.bool false)], args := [d1, d2] }
  | _ => none }
def HashMakesWrongFalsely : Prop := hashMakesRow.holds Try.pinned (OpenSpec.ofChange hashMakesWrong)

/-- 'curtilagelaw12.HashValid': WHATEVER THE INPUT: true; the input reads as it did. -/
def hashValidSpec : ChangeSpec := { name := "hashValid", fn := fun _ => fun
  | [d1, d2, d3, d4] => { results := [.lit (.bool true)], args := [d1, d2, d3, d4] }
  | _ => none }
def hashValidRow : OpenClaim := { program := "ytcoknhomlbbimaa", sum := "49a909c4d88c01453b15fd31648c5d5aaab2429cad72f4c259fb80d9926b5d36", func := "curtilage/curtilagelaw12.HashValid", spec := "hashValid", unfollowed := true, recurses := true, apart := false }
def HashValidSaid : Prop := hashValidRow.holds Try.pinned (OpenSpec.ofChange hashValidSpec)

/-- ITS FALSE NEIGHBOUR: 'it returns false'. Refute it at one input. -/
def hashValidWrong : ChangeSpec := { name := "hashValid", fn := fun _ => fun
  | [d1, d2, d3, d4] => { results := [.lit (.bool false)], args := [d1, d2, d3, d4] }
  | _ => none }
def HashValidWrongFalsely : Prop := hashValidRow.holds Try.pinned (OpenSpec.ofChange hashValidWrong)

/- THE SECOND FORM. 'bulk': how many values and letters a reading holds, each counted each time it is reached (what is shared counts as often as it is met; a slice's spare places count too). A statement '..UptoSaid' is the law's where the arguments, and the package variables that the reading takes, are together of bulk at most 1048576: NARROWER than '..Said'. Prove '..Said' where nothing that the law and all that it calls make is longer than what came in: it says more and counts as full. Else prove '..UptoSaid'. A law counts once. -/
mutual
def uptoBulk {H : Type} : DataW H → Nat
  | .lit (.string bytes) => bytes.length + 1
  | .lit _ => 1
  | .nil => 1
  | .ptr d => uptoBulk d + 1
  | .slice elems spare => uptoBulkAll elems + uptoBulkAll spare + 1
  | .agg parts => uptoBulkAll parts + 1
  | .iface _ d => uptoBulk d + 1
  | .map entries => uptoBulkEntries entries + 1
  | .held _ => 1
def uptoBulkAll {H : Type} : List (DataW H) → Nat
  | [] => 0
  | d :: r => uptoBulk d + uptoBulkAll r
def uptoBulkEntries {H : Type} : List (Lit × DataW H) → Nat
  | [] => 0
  | x :: r => uptoBulkEntry x + uptoBulkEntries r
def uptoBulkEntry {H : Type} : Lit × DataW H → Nat
  | (.string bytes, d) => bytes.length + uptoBulk d + 1
  | (_, d) => uptoBulk d + 1
 end
def uptoSmall : (H : Type) → List (DataW H) → Bool := fun _ ds => decide (uptoBulkAll ds ≤ 1048576)
def OpenSpec.upto (s : _root_.Go.ChangeSpec) : _root_.Go.OpenSpec := { _root_.Go.OpenSpec.ofChange s with cond := some uptoSmall }

/-- 'curtilagelaw12.HashOf', WHERE WHAT IT READS IS OF BULK AT MOST 1048576: true; the input reads as it did. -/
def hashOfUptoRow : OpenClaim := { program := "ytcoknhomlbbimaa", sum := "49a909c4d88c01453b15fd31648c5d5aaab2429cad72f4c259fb80d9926b5d36", func := "curtilage/curtilagelaw12.HashOf", spec := "hashOf", unfollowed := true, recurses := true, apart := false, narrowed := true }
def HashOfUptoSaid : Prop := hashOfUptoRow.holds Try.pinned (OpenSpec.upto hashOfSpec)

/-- 'curtilagelaw12.HashFinds', WHERE WHAT IT READS IS OF BULK AT MOST 1048576: true; the input reads as it did. -/
def hashFindsUptoRow : OpenClaim := { program := "ytcoknhomlbbimaa", sum := "49a909c4d88c01453b15fd31648c5d5aaab2429cad72f4c259fb80d9926b5d36", func := "curtilage/curtilagelaw12.HashFinds", spec := "hashFinds", unfollowed := true, recurses := true, apart := false, narrowed := true }
def HashFindsUptoSaid : Prop := hashFindsUptoRow.holds Try.pinned (OpenSpec.upto hashFindsSpec)

/-- 'curtilagelaw12.HashAlong', WHERE WHAT IT READS IS OF BULK AT MOST 1048576: true; the input reads as it did. -/
def hashAlongUptoRow : OpenClaim := { program := "ytcoknhomlbbimaa", sum := "49a909c4d88c01453b15fd31648c5d5aaab2429cad72f4c259fb80d9926b5d36", func := "curtilage/curtilagelaw12.HashAlong", spec := "hashAlong", unfollowed := true, recurses := true, apart := false, narrowed := true }
def HashAlongUptoSaid : Prop := hashAlongUptoRow.holds Try.pinned (OpenSpec.upto hashAlongSpec)

/-- 'curtilagelaw12.HashMore', WHERE WHAT IT READS IS OF BULK AT MOST 1048576: true; the input reads as it did. -/
def hashMoreUptoRow : OpenClaim := { program := "ytcoknhomlbbimaa", sum := "49a909c4d88c01453b15fd31648c5d5aaab2429cad72f4c259fb80d9926b5d36", func := "curtilage/curtilagelaw12.HashMore", spec := "hashMore", unfollowed := true, recurses := true, apart := false, narrowed := true }
def HashMoreUptoSaid : Prop := hashMoreUptoRow.holds Try.pinned (OpenSpec.upto hashMoreSpec)

/-- 'curtilagelaw12.HashMakes', WHERE WHAT IT READS IS OF BULK AT MOST 1048576: true; the input reads as it did. -/
def hashMakesUptoRow : OpenClaim := { program := "ytcoknhomlbbimaa", sum := "49a909c4d88c01453b15fd31648c5d5aaab2429cad72f4c259fb80d9926b5d36", func := "curtilage/curtilagelaw12.HashMakes", spec := "hashMakes", unfollowed := true, recurses := true, apart := false, narrowed := true }
def HashMakesUptoSaid : Prop := hashMakesUptoRow.holds Try.pinned (OpenSpec.upto hashMakesSpec)

/-- 'curtilagelaw12.HashValid', WHERE WHAT IT READS IS OF BULK AT MOST 1048576: true; the input reads as it did. -/
def hashValidUptoRow : OpenClaim := { program := "ytcoknhomlbbimaa", sum := "49a909c4d88c01453b15fd31648c5d5aaab2429cad72f4c259fb80d9926b5d36", func := "curtilage/curtilagelaw12.HashValid", spec := "hashValid", unfollowed := true, recurses := true, apart := false, narrowed := true }
def HashValidUptoSaid : Prop := hashValidUptoRow.holds Try.pinned (OpenSpec.upto hashValidSpec)

end Rows
end Go.Proofs.Ytcoknhomlbbimaa
