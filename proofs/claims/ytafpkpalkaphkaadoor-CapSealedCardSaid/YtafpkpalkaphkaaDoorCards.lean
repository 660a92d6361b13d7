/-
  DERIVED. GIVEN WITH THE SEED: THE CARDS: each row of YtafpkpalkaphkaaDoorRows.lean that lists a variable, with what it lists TIED to the program's text (the seventh form; the later family's looks); each row that meets fmt, with fmt's text TOLD by the authors' own Lean function (tested against real Go, not proved from fmt's source: count such statements apart). THE CARD IS WHAT COUNTS. Prove the row's statement (the work); the ties are given (YtafpkpalkaphkaaDoorTie.lean); close each card by the builder's one call (the guide's Derived/Test/ToyasCard.lean, 'card_holds'). Laid BY PROGRAM, IN A SANDBOX (cutbox-door.mjs). By AI agents, Wed Nov 11 2026. No macro, syntax, notation, axiom, sorry.
-/
import Derived.Test.YtafpkpalkaphkaaDoorRows
import GoSem.ClaimSeven
namespace Go.Proofs.YtafpkpalkaphkaaDoor
namespace Rows

/-- THE TIED CARD OF 'curtilagelaw02.CapSeals'. -/
def capSealsCard : Claim7 := { stood := { row := capSealsRow, standIns := [], harness := (true, "c4880d9b0cc92c62ae9d8954902971f19306cd5ad3a9aa973a00cc8082746241"), looks := false }, kinds := [], alts := [], laidByText := true, laidKinds := [.data, .data, .data], laidTests := true, laidLooks := .later }
def CapSealsCardSaid : Prop := Claim7.holds Tryd.pinned (.plain (OpenSpec.ofChange capSealsSpec)) capSealsCard

/-- THE TIED CARD OF 'curtilagelaw02.CapTexts'. -/
def capTextsCard : Claim7 := { stood := { row := capTextsRow, standIns := [], harness := (true, "c4880d9b0cc92c62ae9d8954902971f19306cd5ad3a9aa973a00cc8082746241"), looks := false }, kinds := [], alts := [], laidByText := true, laidKinds := [.data, .data, .data], laidTests := true, laidLooks := .later }
def CapTextsCardSaid : Prop := Claim7.holds Tryd.pinned (.plain (OpenSpec.ofChange capTextsSpec)) capTextsCard

/-- THE TIED CARD OF 'curtilagelaw02.CapSealed'. -/
def capSealedCard : Claim7 := { stood := { row := capSealedRow, standIns := [], harness := (true, "c4880d9b0cc92c62ae9d8954902971f19306cd5ad3a9aa973a00cc8082746241"), looks := false }, kinds := [], alts := [], laidByText := true, laidKinds := [.data, .data, .data], laidTests := true, laidLooks := .later }
def CapSealedCardSaid : Prop := Claim7.holds Tryd.pinned (.plain (OpenSpec.ofChange capSealedSpec)) capSealedCard

/-- THE TIED CARD OF 'curtilagelaw02.CapMakes'. -/
def capMakesCard : Claim7 := { stood := { row := capMakesRow, standIns := [], harness := (true, "c4880d9b0cc92c62ae9d8954902971f19306cd5ad3a9aa973a00cc8082746241"), looks := false }, kinds := [], alts := [], laidByText := true, laidKinds := [.data, .data, .data], laidTests := true, laidLooks := .later }
def CapMakesCardSaid : Prop := Claim7.holds Tryd.pinned (.plain (OpenSpec.ofChange capMakesSpec)) capMakesCard

/-- THE TIED CARD OF 'curtilagelaw02.CapChecks'. -/
def capChecksCard : Claim7 := { stood := { row := capChecksRow, standIns := [], harness := (true, "c4880d9b0cc92c62ae9d8954902971f19306cd5ad3a9aa973a00cc8082746241"), looks := false }, kinds := [], alts := [], laidByText := true, laidKinds := [.data, .data, .data], laidTests := true, laidLooks := .later }
def CapChecksCardSaid : Prop := Claim7.holds Tryd.pinned (.plain (OpenSpec.ofChange capChecksSpec)) capChecksCard

/-- THE TIED CARD OF 'curtilagelaw02.CapThrough'. -/
def capThroughCard : Claim7 := { stood := { row := capThroughRow, standIns := [], harness := (true, "c4880d9b0cc92c62ae9d8954902971f19306cd5ad3a9aa973a00cc8082746241"), looks := false }, kinds := [], alts := [], laidByText := true, laidKinds := [.data, .data, .data], laidTests := true, laidLooks := .later }
def CapThroughCardSaid : Prop := Claim7.holds Tryd.pinned (.plain (OpenSpec.ofChange capThroughSpec)) capThroughCard

/-- THE TIED CARD OF 'curtilagelaw02.CapLess'. -/
def capLessCard : Claim7 := { stood := { row := capLessRow, standIns := [], harness := (true, "c4880d9b0cc92c62ae9d8954902971f19306cd5ad3a9aa973a00cc8082746241"), looks := false }, kinds := [], alts := [], laidByText := true, laidKinds := [.data, .data, .data], laidTests := true, laidLooks := .later }
def CapLessCardSaid : Prop := Claim7.holds Tryd.pinned (.plain (OpenSpec.ofChange capLessSpec)) capLessCard

/-- THE SECOND FORM's CARD OF 'curtilagelaw02.CapSeals'. -/
def capSealsUptoCard : Claim7 := { stood := { row := capSealsUptoRow, standIns := [], harness := (true, "c4880d9b0cc92c62ae9d8954902971f19306cd5ad3a9aa973a00cc8082746241"), looks := false }, kinds := [], alts := [], laidByText := true, laidKinds := [.data, .data, .data], laidTests := true, laidLooks := .later }
def CapSealsUptoCardSaid : Prop := Claim7.holds Tryd.pinned (.plain (OpenSpec.upto capSealsSpec)) capSealsUptoCard

/-- THE SECOND FORM's CARD OF 'curtilagelaw02.CapTexts'. -/
def capTextsUptoCard : Claim7 := { stood := { row := capTextsUptoRow, standIns := [], harness := (true, "c4880d9b0cc92c62ae9d8954902971f19306cd5ad3a9aa973a00cc8082746241"), looks := false }, kinds := [], alts := [], laidByText := true, laidKinds := [.data, .data, .data], laidTests := true, laidLooks := .later }
def CapTextsUptoCardSaid : Prop := Claim7.holds Tryd.pinned (.plain (OpenSpec.upto capTextsSpec)) capTextsUptoCard

/-- THE SECOND FORM's CARD OF 'curtilagelaw02.CapSealed'. -/
def capSealedUptoCard : Claim7 := { stood := { row := capSealedUptoRow, standIns := [], harness := (true, "c4880d9b0cc92c62ae9d8954902971f19306cd5ad3a9aa973a00cc8082746241"), looks := false }, kinds := [], alts := [], laidByText := true, laidKinds := [.data, .data, .data], laidTests := true, laidLooks := .later }
def CapSealedUptoCardSaid : Prop := Claim7.holds Tryd.pinned (.plain (OpenSpec.upto capSealedSpec)) capSealedUptoCard

/-- THE SECOND FORM's CARD OF 'curtilagelaw02.CapMakes'. -/
def capMakesUptoCard : Claim7 := { stood := { row := capMakesUptoRow, standIns := [], harness := (true, "c4880d9b0cc92c62ae9d8954902971f19306cd5ad3a9aa973a00cc8082746241"), looks := false }, kinds := [], alts := [], laidByText := true, laidKinds := [.data, .data, .data], laidTests := true, laidLooks := .later }
def CapMakesUptoCardSaid : Prop := Claim7.holds Tryd.pinned (.plain (OpenSpec.upto capMakesSpec)) capMakesUptoCard

/-- THE SECOND FORM's CARD OF 'curtilagelaw02.CapChecks'. -/
def capChecksUptoCard : Claim7 := { stood := { row := capChecksUptoRow, standIns := [], harness := (true, "c4880d9b0cc92c62ae9d8954902971f19306cd5ad3a9aa973a00cc8082746241"), looks := false }, kinds := [], alts := [], laidByText := true, laidKinds := [.data, .data, .data], laidTests := true, laidLooks := .later }
def CapChecksUptoCardSaid : Prop := Claim7.holds Tryd.pinned (.plain (OpenSpec.upto capChecksSpec)) capChecksUptoCard

/-- THE SECOND FORM's CARD OF 'curtilagelaw02.CapThrough'. -/
def capThroughUptoCard : Claim7 := { stood := { row := capThroughUptoRow, standIns := [], harness := (true, "c4880d9b0cc92c62ae9d8954902971f19306cd5ad3a9aa973a00cc8082746241"), looks := false }, kinds := [], alts := [], laidByText := true, laidKinds := [.data, .data, .data], laidTests := true, laidLooks := .later }
def CapThroughUptoCardSaid : Prop := Claim7.holds Tryd.pinned (.plain (OpenSpec.upto capThroughSpec)) capThroughUptoCard

/-- THE SECOND FORM's CARD OF 'curtilagelaw02.CapLess'. -/
def capLessUptoCard : Claim7 := { stood := { row := capLessUptoRow, standIns := [], harness := (true, "c4880d9b0cc92c62ae9d8954902971f19306cd5ad3a9aa973a00cc8082746241"), looks := false }, kinds := [], alts := [], laidByText := true, laidKinds := [.data, .data, .data], laidTests := true, laidLooks := .later }
def CapLessUptoCardSaid : Prop := Claim7.holds Tryd.pinned (.plain (OpenSpec.upto capLessSpec)) capLessUptoCard
end Rows
end Go.Proofs.YtafpkpalkaphkaaDoor
