/-
  NARROWER THAN 'FOR EVERY INPUT', by the rows' own cells (each row's printed sentence says how): CapSeals: laid · CapTexts: laid · CapSealed: laid · CapMakes: laid · CapChecks: laid · CapThrough: laid · CapLess: laid.
  DERIVED. THE GIVEN ROWS OF THIS SEAT. 7 by the template 'for every input the law returns true; each argument reads behind the call as it read before'; 0 by the template 'total and deterministic' (their statements: YtafpkpalkaphkaaDoorTotals.lean).
  GIVEN WITH THE SEED: the statements are not yours to turn. If you find one false, say at which input.
  Laid BY PROGRAM, IN A SANDBOX (cutbox-rows.mjs): the forced cells as the released guide's own fill.sh prints them over the translation 9e132e0e70541602… (all of the seat's roots in one cut). By AI agents, Wed Nov 11 2026. No macro, syntax, notation, axiom, sorry.
-/
import Derived.Test.YtafpkpalkaphkaaDoorChecked
import GoSem.Claim
import GoSem.ClaimJoined
import GoSem.ClaimMapViews
import Derived.JoinedTies
import Derived.KernelRfl
namespace Go.Proofs.YtafpkpalkaphkaaDoor
/- THE CELL 'sum', in the pinned program and in every row, IS THE sha256 OF THE DUMP (.gsa) THAT YtafpkpalkaphkaaDoorProg.lean LOADS. Nothing in Lean hashes anything: it is a label: what it is worth is what the hold of that sum in a sandbox is worth. -/
noncomputable def Tryd.pinned : Pinned := { name := "ytafpkpalkaphkaadoor", sum := "9e132e0e70541602818beffdf9058561f9b52041c8963d4e7f92105dd353fd26", checked := Tryd.checked }
namespace Rows
def none {H : Type} : Left H := { results := [], args := [] }

/- WHAT THE LISTED PACKAGE-LEVEL VARIABLES READ AS WHEN THE CALL BEGINS. Each datum BY PROGRAM (the guide's laid-datum.mjs) off the statement by which the dump's own 'gosem.cut.vars' lays the variable. In a bare row this is a premise. The card (YtafpkpalkaphkaaDoorCards.lean) ties it to the program's text. -/
def laid_math_bits_deBruijn32tab {H : Type} : DataW H := .agg [.lit (.int .u8 0), .lit (.int .u8 1), .lit (.int .u8 28), .lit (.int .u8 2), .lit (.int .u8 29), .lit (.int .u8 14), .lit (.int .u8 24), .lit (.int .u8 3), .lit (.int .u8 30), .lit (.int .u8 22), .lit (.int .u8 20), .lit (.int .u8 15), .lit (.int .u8 25), .lit (.int .u8 17), .lit (.int .u8 4), .lit (.int .u8 8), .lit (.int .u8 31), .lit (.int .u8 27), .lit (.int .u8 13), .lit (.int .u8 23), .lit (.int .u8 21), .lit (.int .u8 19), .lit (.int .u8 16), .lit (.int .u8 7), .lit (.int .u8 26), .lit (.int .u8 12), .lit (.int .u8 18), .lit (.int .u8 6), .lit (.int .u8 11), .lit (.int .u8 5), .lit (.int .u8 10), .lit (.int .u8 9)]
def laid_math_bits_deBruijn64tab {H : Type} : DataW H := .agg [.lit (.int .u8 0), .lit (.int .u8 1), .lit (.int .u8 56), .lit (.int .u8 2), .lit (.int .u8 57), .lit (.int .u8 49), .lit (.int .u8 28), .lit (.int .u8 3), .lit (.int .u8 61), .lit (.int .u8 58), .lit (.int .u8 42), .lit (.int .u8 50), .lit (.int .u8 38), .lit (.int .u8 29), .lit (.int .u8 17), .lit (.int .u8 4), .lit (.int .u8 62), .lit (.int .u8 47), .lit (.int .u8 59), .lit (.int .u8 36), .lit (.int .u8 45), .lit (.int .u8 43), .lit (.int .u8 51), .lit (.int .u8 22), .lit (.int .u8 53), .lit (.int .u8 39), .lit (.int .u8 33), .lit (.int .u8 30), .lit (.int .u8 24), .lit (.int .u8 18), .lit (.int .u8 12), .lit (.int .u8 5), .lit (.int .u8 63), .lit (.int .u8 55), .lit (.int .u8 48), .lit (.int .u8 27), .lit (.int .u8 60), .lit (.int .u8 41), .lit (.int .u8 37), .lit (.int .u8 16), .lit (.int .u8 46), .lit (.int .u8 35), .lit (.int .u8 44), .lit (.int .u8 21), .lit (.int .u8 52), .lit (.int .u8 32), .lit (.int .u8 23), .lit (.int .u8 11), .lit (.int .u8 54), .lit (.int .u8 26), .lit (.int .u8 40), .lit (.int .u8 15), .lit (.int .u8 34), .lit (.int .u8 20), .lit (.int .u8 31), .lit (.int .u8 10), .lit (.int .u8 25), .lit (.int .u8 14), .lit (.int .u8 19), .lit (.int .u8 9), .lit (.int .u8 13), .lit (.int .u8 8), .lit (.int .u8 7), .lit (.int .u8 6)]
def laid_internal_strconv_uint64pow10 {H : Type} : DataW H := .agg [.lit (.int .u64 1), .lit (.int .u64 10), .lit (.int .u64 100), .lit (.int .u64 1000), .lit (.int .u64 10000), .lit (.int .u64 100000), .lit (.int .u64 1000000), .lit (.int .u64 10000000), .lit (.int .u64 100000000), .lit (.int .u64 1000000000), .lit (.int .u64 10000000000), .lit (.int .u64 100000000000), .lit (.int .u64 1000000000000), .lit (.int .u64 10000000000000), .lit (.int .u64 100000000000000), .lit (.int .u64 1000000000000000), .lit (.int .u64 10000000000000000), .lit (.int .u64 100000000000000000), .lit (.int .u64 1000000000000000000), .lit (.int .u64 10000000000000000000)]

/-- 'curtilagelaw02.CapSeals': WHATEVER THE INPUT: true; the input reads as it did. -/
def capSealsSpec : ChangeSpec := { name := "capSeals", fn := fun _ => fun
  | [d1, d2] => { results := [.lit (.bool true)], args := [d1, d2] }
  | _ => none }
def capSealsRow : OpenClaim := { program := "ytafpkpalkaphkaadoor", sum := "9e132e0e70541602818beffdf9058561f9b52041c8963d4e7f92105dd353fd26", func := "curtilage/curtilagelaw02.CapSeals", spec := "capSeals", unfollowed := true, recurses := true, named := ["internal/strconv.uint64pow10", "math/bits.deBruijn32tab", "math/bits.deBruijn64tab"], apart := false, laid := [("math/bits.deBruijn32tab", laid_math_bits_deBruijn32tab), ("math/bits.deBruijn64tab", laid_math_bits_deBruijn64tab), ("internal/strconv.uint64pow10", laid_internal_strconv_uint64pow10)] }
def CapSealsSaid : Prop := capSealsRow.holds Tryd.pinned (OpenSpec.ofChange capSealsSpec)

/-- ITS FALSE NEIGHBOUR: 'it returns false'. Refute it at one input. -/
def capSealsWrong : ChangeSpec := { name := "capSeals", fn := fun _ => fun
  | [d1, d2] => { results := [.lit (.bool false)], args := [d1, d2] }
  | _ => none }
def CapSealsWrongFalsely : Prop := capSealsRow.holds Tryd.pinned (OpenSpec.ofChange capSealsWrong)

/-- 'curtilagelaw02.CapTexts': WHATEVER THE INPUT: true; the input reads as it did. -/
def capTextsSpec : ChangeSpec := { name := "capTexts", fn := fun _ => fun
  | [d1, d2] => { results := [.lit (.bool true)], args := [d1, d2] }
  | _ => none }
def capTextsRow : OpenClaim := { program := "ytafpkpalkaphkaadoor", sum := "9e132e0e70541602818beffdf9058561f9b52041c8963d4e7f92105dd353fd26", func := "curtilage/curtilagelaw02.CapTexts", spec := "capTexts", unfollowed := true, recurses := true, named := ["internal/strconv.uint64pow10", "math/bits.deBruijn32tab", "math/bits.deBruijn64tab"], apart := false, laid := [("math/bits.deBruijn32tab", laid_math_bits_deBruijn32tab), ("math/bits.deBruijn64tab", laid_math_bits_deBruijn64tab), ("internal/strconv.uint64pow10", laid_internal_strconv_uint64pow10)] }
def CapTextsSaid : Prop := capTextsRow.holds Tryd.pinned (OpenSpec.ofChange capTextsSpec)

/-- ITS FALSE NEIGHBOUR: 'it returns false'. Refute it at one input. -/
def capTextsWrong : ChangeSpec := { name := "capTexts", fn := fun _ => fun
  | [d1, d2] => { results := [.lit (.bool false)], args := [d1, d2] }
  | _ => none }
def CapTextsWrongFalsely : Prop := capTextsRow.holds Tryd.pinned (OpenSpec.ofChange capTextsWrong)

/-- 'curtilagelaw02.CapSealed': WHATEVER THE INPUT: true; the input reads as it did. -/
def capSealedSpec : ChangeSpec := { name := "capSealed", fn := fun _ => fun
  | [d1, d2, d3, d4] => { results := [.lit (.bool true)], args := [d1, d2, d3, d4] }
  | _ => none }
def capSealedRow : OpenClaim := { program := "ytafpkpalkaphkaadoor", sum := "9e132e0e70541602818beffdf9058561f9b52041c8963d4e7f92105dd353fd26", func := "curtilage/curtilagelaw02.CapSealed", spec := "capSealed", unfollowed := true, recurses := true, named := ["internal/strconv.uint64pow10", "math/bits.deBruijn32tab", "math/bits.deBruijn64tab"], apart := false, laid := [("math/bits.deBruijn32tab", laid_math_bits_deBruijn32tab), ("math/bits.deBruijn64tab", laid_math_bits_deBruijn64tab), ("internal/strconv.uint64pow10", laid_internal_strconv_uint64pow10)] }
def CapSealedSaid : Prop := capSealedRow.holds Tryd.pinned (OpenSpec.ofChange capSealedSpec)

/-- ITS FALSE NEIGHBOUR: 'it returns false'. Refute it at one input. -/
def capSealedWrong : ChangeSpec := { name := "capSealed", fn := fun _ => fun
  | [d1, d2, d3, d4] => { results := [.lit (.bool false)], args := [d1, d2, d3, d4] }
  | _ => none }
def CapSealedWrongFalsely : Prop := capSealedRow.holds Tryd.pinned (OpenSpec.ofChange capSealedWrong)

/-- 'curtilagelaw02.CapMakes': WHATEVER THE INPUT: true; the input reads as it did. -/
def capMakesSpec : ChangeSpec := { name := "capMakes", fn := fun _ => fun
  | [d1, d2, d3] => { results := [.lit (.bool true)], args := [d1, d2, d3] }
  | _ => none }
def capMakesRow : OpenClaim := { program := "ytafpkpalkaphkaadoor", sum := "9e132e0e70541602818beffdf9058561f9b52041c8963d4e7f92105dd353fd26", func := "curtilage/curtilagelaw02.CapMakes", spec := "capMakes", unfollowed := true, recurses := true, named := ["internal/strconv.uint64pow10", "math/bits.deBruijn32tab", "math/bits.deBruijn64tab"], apart := false, laid := [("math/bits.deBruijn32tab", laid_math_bits_deBruijn32tab), ("math/bits.deBruijn64tab", laid_math_bits_deBruijn64tab), ("internal/strconv.uint64pow10", laid_internal_strconv_uint64pow10)] }
def CapMakesSaid : Prop := capMakesRow.holds Tryd.pinned (OpenSpec.ofChange capMakesSpec)

/-- ITS FALSE NEIGHBOUR: 'it returns false'. Refute it at one input. -/
def capMakesWrong : ChangeSpec := { name := "capMakes", fn := fun _ => fun
  | [d1, d2, d3] => { results := [.lit (.bool false)], args := [d1, d2, d3] }
  | _ => none }
def CapMakesWrongFalsely : Prop := capMakesRow.holds Tryd.pinned (OpenSpec.ofChange capMakesWrong)

/-- 'curtilagelaw02.CapChecks': WHATEVER THE INPUT: true; the input reads as it did. -/
def capChecksSpec : ChangeSpec := { name := "capChecks", fn := fun _ => fun
  | [d1, d2, d3, d4] => { results := [.lit (.bool true)], args := [d1, d2, d3, d4] }
  | _ => none }
def capChecksRow : OpenClaim := { program := "ytafpkpalkaphkaadoor", sum := "9e132e0e70541602818beffdf9058561f9b52041c8963d4e7f92105dd353fd26", func := "curtilage/curtilagelaw02.CapChecks", spec := "capChecks", unfollowed := true, recurses := true, named := ["internal/strconv.uint64pow10", "math/bits.deBruijn32tab", "math/bits.deBruijn64tab"], apart := false, laid := [("math/bits.deBruijn32tab", laid_math_bits_deBruijn32tab), ("math/bits.deBruijn64tab", laid_math_bits_deBruijn64tab), ("internal/strconv.uint64pow10", laid_internal_strconv_uint64pow10)] }
def CapChecksSaid : Prop := capChecksRow.holds Tryd.pinned (OpenSpec.ofChange capChecksSpec)

/-- ITS FALSE NEIGHBOUR: 'it returns false'. Refute it at one input. -/
def capChecksWrong : ChangeSpec := { name := "capChecks", fn := fun _ => fun
  | [d1, d2, d3, d4] => { results := [.lit (.bool false)], args := [d1, d2, d3, d4] }
  | _ => none }
def CapChecksWrongFalsely : Prop := capChecksRow.holds Tryd.pinned (OpenSpec.ofChange capChecksWrong)

/-- 'curtilagelaw02.CapThrough': WHATEVER THE INPUT: true; the input reads as it did. -/
def capThroughSpec : ChangeSpec := { name := "capThrough", fn := fun _ => fun
  | [d1, d2, d3, d4, d5] => { results := [.lit (.bool true)], args := [d1, d2, d3, d4, d5] }
  | _ => none }
def capThroughRow : OpenClaim := { program := "ytafpkpalkaphkaadoor", sum := "9e132e0e70541602818beffdf9058561f9b52041c8963d4e7f92105dd353fd26", func := "curtilage/curtilagelaw02.CapThrough", spec := "capThrough", unfollowed := true, recurses := true, named := ["internal/strconv.uint64pow10", "math/bits.deBruijn32tab", "math/bits.deBruijn64tab"], apart := false, laid := [("math/bits.deBruijn32tab", laid_math_bits_deBruijn32tab), ("math/bits.deBruijn64tab", laid_math_bits_deBruijn64tab), ("internal/strconv.uint64pow10", laid_internal_strconv_uint64pow10)] }
def CapThroughSaid : Prop := capThroughRow.holds Tryd.pinned (OpenSpec.ofChange capThroughSpec)

/-- ITS FALSE NEIGHBOUR: 'it returns false'. Refute it at one input. -/
def capThroughWrong : ChangeSpec := { name := "capThrough", fn := fun _ => fun
  | [d1, d2, d3, d4, d5] => { results := [.lit (.bool false)], args := [d1, d2, d3, d4, d5] }
  | _ => none }
def CapThroughWrongFalsely : Prop := capThroughRow.holds Tryd.pinned (OpenSpec.ofChange capThroughWrong)

/-- 'curtilagelaw02.CapLess': WHATEVER THE INPUT: true; the input reads as it did. -/
def capLessSpec : ChangeSpec := { name := "capLess", fn := fun _ => fun
  | [d1, d2, d3] => { results := [.lit (.bool true)], args := [d1, d2, d3] }
  | _ => none }
def capLessRow : OpenClaim := { program := "ytafpkpalkaphkaadoor", sum := "9e132e0e70541602818beffdf9058561f9b52041c8963d4e7f92105dd353fd26", func := "curtilage/curtilagelaw02.CapLess", spec := "capLess", unfollowed := true, recurses := true, named := ["internal/strconv.uint64pow10", "math/bits.deBruijn32tab", "math/bits.deBruijn64tab"], apart := false, laid := [("math/bits.deBruijn32tab", laid_math_bits_deBruijn32tab), ("math/bits.deBruijn64tab", laid_math_bits_deBruijn64tab), ("internal/strconv.uint64pow10", laid_internal_strconv_uint64pow10)] }
def CapLessSaid : Prop := capLessRow.holds Tryd.pinned (OpenSpec.ofChange capLessSpec)

/-- ITS FALSE NEIGHBOUR: 'it returns false'. Refute it at one input. -/
def capLessWrong : ChangeSpec := { name := "capLess", fn := fun _ => fun
  | [d1, d2, d3] => { results := [.lit (.bool false)], args := [d1, d2, d3] }
  | _ => none }
def CapLessWrongFalsely : Prop := capLessRow.holds Tryd.pinned (OpenSpec.ofChange capLessWrong)

/- THE SECOND FORM. 'bulk': how many values and letters a reading holds, each counted each time it is reached (what is shared counts as often as it is met; a slice's spare places count too). A statement '..UptoSaid' is the law's where the arguments, and the package variables that the reading takes, are together of bulk at most 1048576: NARROWER than '..Said'. Prove '..Said' where nothing that the law and all that it calls make is longer than what came in: it says more and counts as full. Else prove '..UptoSaid'. A law counts once. -/
mutual
def uptoBulk {H : Type} : DataW H → Nat
  | .lit (.string bytes) => bytes.length + 1
  | .lit _ => 1
  | .nil => 1
  | .ptr d => uptoBulk d + 1
  | .slice elems spare => uptoBulkAll elems + uptoBulkAll spare + 1
  | .agg parts => uptoBulkAll parts + 1
  | .iface _ d => uptoBulk d + 1
  | .map entries => uptoBulkEntries entries + 1
  | .held _ => 1
def uptoBulkAll {H : Type} : List (DataW H) → Nat
  | [] => 0
  | d :: r => uptoBulk d + uptoBulkAll r
def uptoBulkEntries {H : Type} : List (Lit × DataW H) → Nat
  | [] => 0
  | x :: r => uptoBulkEntry x + uptoBulkEntries r
def uptoBulkEntry {H : Type} : Lit × DataW H → Nat
  | (.string bytes, d) => bytes.length + uptoBulk d + 1
  | (_, d) => uptoBulk d + 1
 end
def uptoSmall : (H : Type) → List (DataW H) → Bool := fun _ ds => decide (uptoBulkAll ds ≤ 1048576)
def OpenSpec.upto (s : _root_.Go.ChangeSpec) : _root_.Go.OpenSpec := { _root_.Go.OpenSpec.ofChange s with cond := some uptoSmall }

/-- 'curtilagelaw02.CapSeals', WHERE WHAT IT READS IS OF BULK AT MOST 1048576: true; the input reads as it did. -/
def capSealsUptoRow : OpenClaim := { program := "ytafpkpalkaphkaadoor", sum := "9e132e0e70541602818beffdf9058561f9b52041c8963d4e7f92105dd353fd26", func := "curtilage/curtilagelaw02.CapSeals", spec := "capSeals", unfollowed := true, recurses := true, named := ["internal/strconv.uint64pow10", "math/bits.deBruijn32tab", "math/bits.deBruijn64tab"], apart := false, laid := [("math/bits.deBruijn32tab", laid_math_bits_deBruijn32tab), ("math/bits.deBruijn64tab", laid_math_bits_deBruijn64tab), ("internal/strconv.uint64pow10", laid_internal_strconv_uint64pow10)], narrowed := true }
def CapSealsUptoSaid : Prop := capSealsUptoRow.holds Tryd.pinned (OpenSpec.upto capSealsSpec)

/-- 'curtilagelaw02.CapTexts', WHERE WHAT IT READS IS OF BULK AT MOST 1048576: true; the input reads as it did. -/
def capTextsUptoRow : OpenClaim := { program := "ytafpkpalkaphkaadoor", sum := "9e132e0e70541602818beffdf9058561f9b52041c8963d4e7f92105dd353fd26", func := "curtilage/curtilagelaw02.CapTexts", spec := "capTexts", unfollowed := true, recurses := true, named := ["internal/strconv.uint64pow10", "math/bits.deBruijn32tab", "math/bits.deBruijn64tab"], apart := false, laid := [("math/bits.deBruijn32tab", laid_math_bits_deBruijn32tab), ("math/bits.deBruijn64tab", laid_math_bits_deBruijn64tab), ("internal/strconv.uint64pow10", laid_internal_strconv_uint64pow10)], narrowed := true }
def CapTextsUptoSaid : Prop := capTextsUptoRow.holds Tryd.pinned (OpenSpec.upto capTextsSpec)

/-- 'curtilagelaw02.CapSealed', WHERE WHAT IT READS IS OF BULK AT MOST 1048576: true; the input reads as it did. -/
def capSealedUptoRow : OpenClaim := { program := "ytafpkpalkaphkaadoor", sum := "9e132e0e70541602818beffdf9058561f9b52041c8963d4e7f92105dd353fd26", func := "curtilage/curtilagelaw02.CapSealed", spec := "capSealed", unfollowed := true, recurses := true, named := ["internal/strconv.uint64pow10", "math/bits.deBruijn32tab", "math/bits.deBruijn64tab"], apart := false, laid := [("math/bits.deBruijn32tab", laid_math_bits_deBruijn32tab), ("math/bits.deBruijn64tab", laid_math_bits_deBruijn64tab), ("internal/strconv.uint64pow10", laid_internal_strconv_uint64pow10)], narrowed := true }
def CapSealedUptoSaid : Prop := capSealedUptoRow.holds Tryd.pinned (OpenSpec.upto capSealedSpec)

/-- 'curtilagelaw02.CapMakes', WHERE WHAT IT READS IS OF BULK AT MOST 1048576: true; the input reads as it did. -/
def capMakesUptoRow : OpenClaim := { program := "ytafpkpalkaphkaadoor", sum := "9e132e0e70541602818beffdf9058561f9b52041c8963d4e7f92105dd353fd26", func := "curtilage/curtilagelaw02.CapMakes", spec := "capMakes", unfollowed := true, recurses := true, named := ["internal/strconv.uint64pow10", "math/bits.deBruijn32tab", "math/bits.deBruijn64tab"], apart := false, laid := [("math/bits.deBruijn32tab", laid_math_bits_deBruijn32tab), ("math/bits.deBruijn64tab", laid_math_bits_deBruijn64tab), ("internal/strconv.uint64pow10", laid_internal_strconv_uint64pow10)], narrowed := true }
def CapMakesUptoSaid : Prop := capMakesUptoRow.holds Tryd.pinned (OpenSpec.upto capMakesSpec)

/-- 'curtilagelaw02.CapChecks', WHERE WHAT IT READS IS OF BULK AT MOST 1048576: true; the input reads as it did. -/
def capChecksUptoRow : OpenClaim := { program := "ytafpkpalkaphkaadoor", sum := "9e132e0e70541602818beffdf9058561f9b52041c8963d4e7f92105dd353fd26", func := "curtilage/curtilagelaw02.CapChecks", spec := "capChecks", unfollowed := true, recurses := true, named := ["internal/strconv.uint64pow10", "math/bits.deBruijn32tab", "math/bits.deBruijn64tab"], apart := false, laid := [("math/bits.deBruijn32tab", laid_math_bits_deBruijn32tab), ("math/bits.deBruijn64tab", laid_math_bits_deBruijn64tab), ("internal/strconv.uint64pow10", laid_internal_strconv_uint64pow10)], narrowed := true }
def CapChecksUptoSaid : Prop := capChecksUptoRow.holds Tryd.pinned (OpenSpec.upto capChecksSpec)

/-- 'curtilagelaw02.CapThrough', WHERE WHAT IT READS IS OF BULK AT MOST 1048576: true; the input reads as it did. -/
def capThroughUptoRow : OpenClaim := { program := "ytafpkpalkaphkaadoor", sum := "9e132e0e70541602818beffdf9058561f9b52041c8963d4e7f92105dd353fd26", func := "curtilage/curtilagelaw02.CapThrough", spec := "capThrough", unfollowed := true, recurses := true, named := ["internal/strconv.uint64pow10", "math/bits.deBruijn32tab", "math/bits.deBruijn64tab"], apart := false, laid := [("math/bits.deBruijn32tab", laid_math_bits_deBruijn32tab), ("math/bits.deBruijn64tab", laid_math_bits_deBruijn64tab), ("internal/strconv.uint64pow10", laid_internal_strconv_uint64pow10)], narrowed := true }
def CapThroughUptoSaid : Prop := capThroughUptoRow.holds Tryd.pinned (OpenSpec.upto capThroughSpec)

/-- 'curtilagelaw02.CapLess', WHERE WHAT IT READS IS OF BULK AT MOST 1048576: true; the input reads as it did. -/
def capLessUptoRow : OpenClaim := { program := "ytafpkpalkaphkaadoor", sum := "9e132e0e70541602818beffdf9058561f9b52041c8963d4e7f92105dd353fd26", func := "curtilage/curtilagelaw02.CapLess", spec := "capLess", unfollowed := true, recurses := true, named := ["internal/strconv.uint64pow10", "math/bits.deBruijn32tab", "math/bits.deBruijn64tab"], apart := false, laid := [("math/bits.deBruijn32tab", laid_math_bits_deBruijn32tab), ("math/bits.deBruijn64tab", laid_math_bits_deBruijn64tab), ("internal/strconv.uint64pow10", laid_internal_strconv_uint64pow10)], narrowed := true }
def CapLessUptoSaid : Prop := capLessUptoRow.holds Tryd.pinned (OpenSpec.upto capLessSpec)

end Rows
end Go.Proofs.YtafpkpalkaphkaaDoor
