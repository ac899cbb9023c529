/-
  DERIVED. GIVEN WITH THE SEED: THE CARDS: each row of YtijbnjaackhlcaaGreatDoorRows.lean that lists a variable, with what it lists TIED to the program's text (the seventh form; the later family's looks); each row that meets fmt, with fmt's text TOLD by the authors' own Lean function (tested against real Go, not proved from fmt's source: count such statements apart). THE CARD IS WHAT COUNTS. Prove the row's statement (the work); the ties are given (YtijbnjaackhlcaaGreatDoorTie.lean); close each card by the builder's one call (the guide's Derived/Test/ToyasCard.lean, 'card_holds'). Laid BY PROGRAM, IN A SANDBOX (cutbox-door.mjs). By AI agents, Wed Nov 11 2026. No macro, syntax, notation, axiom, sorry.
-/
import Derived.Test.YtijbnjaackhlcaaGreatDoorRows
import GoSem.ClaimSeven
namespace Go.Proofs.YtijbnjaackhlcaaGreatDoor
namespace Rows

/-- THE TIED CARD OF 'simulcastlaw46.TypesParts'. -/
def typesPartsCard : Claim7 := { stood := { row := typesPartsRow, standIns := [], harness := (true, "dc24fc034eff993e78136b06fef583f5bfa2b96cb2b8cb286301c254189c761e"), looks := false }, kinds := [], alts := [], laidByText := true, laidKinds := [.widerDeep, .data], laidTests := true, laidLooks := .later }
def TypesPartsCardSaid : Prop := Claim7.holds Tryz.pinned (.plain (OpenSpec.ofChange typesPartsSpec)) typesPartsCard

/-- THE TIED CARD OF 'simulcastlaw46.TypesWraps'. -/
def typesWrapsCard : Claim7 := { stood := { row := typesWrapsRow, standIns := [], harness := (true, "dc24fc034eff993e78136b06fef583f5bfa2b96cb2b8cb286301c254189c761e"), looks := false }, kinds := [], alts := [], laidByText := true, laidKinds := [.widerDeep, .data], laidTests := true, laidLooks := .later }
def TypesWrapsCardSaid : Prop := Claim7.holds Tryz.pinned (.plain (OpenSpec.ofChange typesWrapsSpec)) typesWrapsCard

/-- THE TIED CARD OF 'simulcastlaw46.TypesOf'. -/
def typesOfCard : Claim7 := { stood := { row := typesOfRow, standIns := [], harness := (true, "dc24fc034eff993e78136b06fef583f5bfa2b96cb2b8cb286301c254189c761e"), looks := false }, kinds := [], alts := [], laidByText := true, laidKinds := [.widerDeep, .data], laidTests := true, laidLooks := .later }
def TypesOfCardSaid : Prop := Claim7.holds Tryz.pinned (.plain (OpenSpec.ofChange typesOfSpec)) typesOfCard

/-- THE TIED CARD OF 'simulcastlaw46.TypesCheck'. -/
def typesCheckCard : Claim7 := { stood := { row := typesCheckRow, standIns := [], harness := (true, "dc24fc034eff993e78136b06fef583f5bfa2b96cb2b8cb286301c254189c761e"), looks := false }, kinds := [], alts := [], laidByText := true, laidKinds := [.widerDeep, .data], laidTests := true, laidLooks := .later }
def TypesCheckCardSaid : Prop := Claim7.holds Tryz.pinned (.plain (OpenSpec.ofChange typesCheckSpec)) typesCheckCard

/-- THE TIED CARD OF 'simulcastlaw46.TypesVars'. -/
def typesVarsCard : Claim7 := { stood := { row := typesVarsRow, standIns := [], harness := (true, "dc24fc034eff993e78136b06fef583f5bfa2b96cb2b8cb286301c254189c761e"), looks := false }, kinds := [], alts := [], laidByText := true, laidKinds := [.widerDeep, .data], laidTests := true, laidLooks := .later }
def TypesVarsCardSaid : Prop := Claim7.holds Tryz.pinned (.plain (OpenSpec.ofChange typesVarsSpec)) typesVarsCard

/-- THE TIED CARD OF 'simulcastlaw46.TypesMore'. -/
def typesMoreCard : Claim7 := { stood := { row := typesMoreRow, standIns := [], harness := (true, "dc24fc034eff993e78136b06fef583f5bfa2b96cb2b8cb286301c254189c761e"), looks := false }, kinds := [], alts := [], laidByText := true, laidKinds := [.widerDeep, .data], laidTests := true, laidLooks := .later }
def TypesMoreCardSaid : Prop := Claim7.holds Tryz.pinned (.plain (OpenSpec.ofChange typesMoreSpec)) typesMoreCard

/-- THE SECOND FORM's CARD OF 'simulcastlaw46.TypesParts'. -/
def typesPartsUptoCard : Claim7 := { stood := { row := typesPartsUptoRow, standIns := [], harness := (true, "dc24fc034eff993e78136b06fef583f5bfa2b96cb2b8cb286301c254189c761e"), looks := false }, kinds := [], alts := [], laidByText := true, laidKinds := [.widerDeep, .data], laidTests := true, laidLooks := .later }
def TypesPartsUptoCardSaid : Prop := Claim7.holds Tryz.pinned (.plain (OpenSpec.upto typesPartsSpec)) typesPartsUptoCard

/-- THE SECOND FORM's CARD OF 'simulcastlaw46.TypesWraps'. -/
def typesWrapsUptoCard : Claim7 := { stood := { row := typesWrapsUptoRow, standIns := [], harness := (true, "dc24fc034eff993e78136b06fef583f5bfa2b96cb2b8cb286301c254189c761e"), looks := false }, kinds := [], alts := [], laidByText := true, laidKinds := [.widerDeep, .data], laidTests := true, laidLooks := .later }
def TypesWrapsUptoCardSaid : Prop := Claim7.holds Tryz.pinned (.plain (OpenSpec.upto typesWrapsSpec)) typesWrapsUptoCard

/-- THE SECOND FORM's CARD OF 'simulcastlaw46.TypesOf'. -/
def typesOfUptoCard : Claim7 := { stood := { row := typesOfUptoRow, standIns := [], harness := (true, "dc24fc034eff993e78136b06fef583f5bfa2b96cb2b8cb286301c254189c761e"), looks := false }, kinds := [], alts := [], laidByText := true, laidKinds := [.widerDeep, .data], laidTests := true, laidLooks := .later }
def TypesOfUptoCardSaid : Prop := Claim7.holds Tryz.pinned (.plain (OpenSpec.upto typesOfSpec)) typesOfUptoCard

/-- THE SECOND FORM's CARD OF 'simulcastlaw46.TypesCheck'. -/
def typesCheckUptoCard : Claim7 := { stood := { row := typesCheckUptoRow, standIns := [], harness := (true, "dc24fc034eff993e78136b06fef583f5bfa2b96cb2b8cb286301c254189c761e"), looks := false }, kinds := [], alts := [], laidByText := true, laidKinds := [.widerDeep, .data], laidTests := true, laidLooks := .later }
def TypesCheckUptoCardSaid : Prop := Claim7.holds Tryz.pinned (.plain (OpenSpec.upto typesCheckSpec)) typesCheckUptoCard

/-- THE SECOND FORM's CARD OF 'simulcastlaw46.TypesVars'. -/
def typesVarsUptoCard : Claim7 := { stood := { row := typesVarsUptoRow, standIns := [], harness := (true, "dc24fc034eff993e78136b06fef583f5bfa2b96cb2b8cb286301c254189c761e"), looks := false }, kinds := [], alts := [], laidByText := true, laidKinds := [.widerDeep, .data], laidTests := true, laidLooks := .later }
def TypesVarsUptoCardSaid : Prop := Claim7.holds Tryz.pinned (.plain (OpenSpec.upto typesVarsSpec)) typesVarsUptoCard

/-- THE SECOND FORM's CARD OF 'simulcastlaw46.TypesMore'. -/
def typesMoreUptoCard : Claim7 := { stood := { row := typesMoreUptoRow, standIns := [], harness := (true, "dc24fc034eff993e78136b06fef583f5bfa2b96cb2b8cb286301c254189c761e"), looks := false }, kinds := [], alts := [], laidByText := true, laidKinds := [.widerDeep, .data], laidTests := true, laidLooks := .later }
def TypesMoreUptoCardSaid : Prop := Claim7.holds Tryz.pinned (.plain (OpenSpec.upto typesMoreSpec)) typesMoreUptoCard
end Rows
end Go.Proofs.YtijbnjaackhlcaaGreatDoor
