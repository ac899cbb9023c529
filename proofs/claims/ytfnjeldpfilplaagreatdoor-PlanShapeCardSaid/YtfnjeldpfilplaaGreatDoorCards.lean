/-
  DERIVED. GIVEN WITH THE SEED: THE CARDS: each row of YtfnjeldpfilplaaGreatDoorRows.lean that lists a variable, with what it lists TIED to the program's text (the seventh form; the later family's looks); each row that meets fmt, with fmt's text TOLD by the authors' own Lean function (tested against real Go, not proved from fmt's source: count such statements apart). THE CARD IS WHAT COUNTS. Prove the row's statement (the work); the ties are given (YtfnjeldpfilplaaGreatDoorTie.lean); close each card by the builder's one call (the guide's Derived/Test/ToyasCard.lean, 'card_holds'). Laid BY PROGRAM, IN A SANDBOX (cutbox-door.mjs). By AI agents, Wed Nov 11 2026. No macro, syntax, notation, axiom, sorry.
-/
import Derived.Test.YtfnjeldpfilplaaGreatDoorRows
import GoSem.ClaimSeven
namespace Go.Proofs.YtfnjeldpfilplaaGreatDoor
namespace Rows

/-- THE TIED CARD OF 'simulcastlaw49.PlanTexts'. -/
def planTextsCard : Claim7 := { stood := { row := planTextsRow, standIns := [], harness := (true, "c99f64fda476f0d578cc875e930de8a84c8658a89d6d927ad7e95f4f75a691b1"), looks := false }, kinds := [], alts := [], laidByText := true, laidKinds := [.data, .data, .data, .widerDeep, .data, .data], laidTests := true, laidLooks := .later }
def PlanTextsCardSaid : Prop := Claim7.holds Tryz.pinned (.plain (OpenSpec.ofChange planTextsSpec)) planTextsCard

/-- THE TIED CARD OF 'simulcastlaw49.PlanOf'. -/
def planOfCard : Claim7 := { stood := { row := planOfRow, standIns := [], harness := (true, "c99f64fda476f0d578cc875e930de8a84c8658a89d6d927ad7e95f4f75a691b1"), looks := false }, kinds := [], alts := [], laidByText := true, laidKinds := [.data, .data, .data, .widerDeep, .data, .data], laidTests := true, laidLooks := .later }
def PlanOfCardSaid : Prop := Claim7.holds Tryz.pinned (.plain (OpenSpec.ofChange planOfSpec)) planOfCard

/-- THE TIED CARD OF 'simulcastlaw49.PlanShape'. -/
def planShapeCard : Claim7 := { stood := { row := planShapeRow, standIns := [], harness := (true, "c99f64fda476f0d578cc875e930de8a84c8658a89d6d927ad7e95f4f75a691b1"), looks := false }, kinds := [], alts := [], laidByText := true, laidKinds := [.data, .data, .data, .widerDeep, .data, .data], laidTests := true, laidLooks := .later }
def PlanShapeCardSaid : Prop := Claim7.holds Tryz.pinned (.plain (OpenSpec.ofChange planShapeSpec)) planShapeCard

/-- THE SECOND FORM's CARD OF 'simulcastlaw49.PlanTexts'. -/
def planTextsUptoCard : Claim7 := { stood := { row := planTextsUptoRow, standIns := [], harness := (true, "c99f64fda476f0d578cc875e930de8a84c8658a89d6d927ad7e95f4f75a691b1"), looks := false }, kinds := [], alts := [], laidByText := true, laidKinds := [.data, .data, .data, .widerDeep, .data, .data], laidTests := true, laidLooks := .later }
def PlanTextsUptoCardSaid : Prop := Claim7.holds Tryz.pinned (.plain (OpenSpec.upto planTextsSpec)) planTextsUptoCard

/-- THE SECOND FORM's CARD OF 'simulcastlaw49.PlanOf'. -/
def planOfUptoCard : Claim7 := { stood := { row := planOfUptoRow, standIns := [], harness := (true, "c99f64fda476f0d578cc875e930de8a84c8658a89d6d927ad7e95f4f75a691b1"), looks := false }, kinds := [], alts := [], laidByText := true, laidKinds := [.data, .data, .data, .widerDeep, .data, .data], laidTests := true, laidLooks := .later }
def PlanOfUptoCardSaid : Prop := Claim7.holds Tryz.pinned (.plain (OpenSpec.upto planOfSpec)) planOfUptoCard

/-- THE SECOND FORM's CARD OF 'simulcastlaw49.PlanShape'. -/
def planShapeUptoCard : Claim7 := { stood := { row := planShapeUptoRow, standIns := [], harness := (true, "c99f64fda476f0d578cc875e930de8a84c8658a89d6d927ad7e95f4f75a691b1"), looks := false }, kinds := [], alts := [], laidByText := true, laidKinds := [.data, .data, .data, .widerDeep, .data, .data], laidTests := true, laidLooks := .later }
def PlanShapeUptoCardSaid : Prop := Claim7.holds Tryz.pinned (.plain (OpenSpec.upto planShapeSpec)) planShapeUptoCard
end Rows
end Go.Proofs.YtfnjeldpfilplaaGreatDoor
