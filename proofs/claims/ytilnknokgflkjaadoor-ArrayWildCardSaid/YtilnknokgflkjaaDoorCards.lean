/-
  DERIVED. GIVEN WITH THE SEED: THE CARDS: each row of YtilnknokgflkjaaDoorRows.lean that lists a variable, with what it lists TIED to the program's text (the seventh form; the later family's looks); each row that meets fmt, with fmt's text TOLD by the authors' own Lean function (tested against real Go, not proved from fmt's source: count such statements apart). THE CARD IS WHAT COUNTS. Prove the row's statement (the work); the ties are given (YtilnknokgflkjaaDoorTie.lean); close each card by the builder's one call (the guide's Derived/Test/ToyasCard.lean, 'card_holds'). Laid BY PROGRAM, IN A SANDBOX (cutbox-door.mjs). By AI agents, Wed Nov 11 2026. No macro, syntax, notation, axiom, sorry.
-/
import Derived.Test.YtilnknokgflkjaaDoorRows
import GoSem.ClaimSeven
namespace Go.Proofs.YtilnknokgflkjaaDoor
namespace Rows

/-- THE TIED CARD OF 'simulcastlaw39.ArrayDrains'. -/
def arrayDrainsCard : Claim7 := { stood := { row := arrayDrainsRow, standIns := [], harness := (true, "b9530f391fc96e3f4485f1e0bb62de64e30c7b22471303385892b0e10d98af6c"), looks := false }, kinds := [], alts := [], laidByText := true, laidKinds := [.data], laidTests := true, laidLooks := .later }
def ArrayDrainsCardSaid : Prop := Claim7.holds Tryd.pinned (.plain (OpenSpec.ofChange arrayDrainsSpec)) arrayDrainsCard

/-- THE TIED CARD OF 'simulcastlaw39.ArrayPlays'. -/
def arrayPlaysCard : Claim7 := { stood := { row := arrayPlaysRow, standIns := [], harness := (true, "b9530f391fc96e3f4485f1e0bb62de64e30c7b22471303385892b0e10d98af6c"), looks := false }, kinds := [], alts := [], laidByText := true, laidKinds := [.data], laidTests := true, laidLooks := .later }
def ArrayPlaysCardSaid : Prop := Claim7.holds Tryd.pinned (.plain (OpenSpec.ofChange arrayPlaysSpec)) arrayPlaysCard

/-- THE TIED CARD OF 'simulcastlaw39.ArraySwaps'. -/
def arraySwapsCard : Claim7 := { stood := { row := arraySwapsRow, standIns := [], harness := (true, "b9530f391fc96e3f4485f1e0bb62de64e30c7b22471303385892b0e10d98af6c"), looks := false }, kinds := [], alts := [], laidByText := true, laidKinds := [.data], laidTests := true, laidLooks := .later }
def ArraySwapsCardSaid : Prop := Claim7.holds Tryd.pinned (.plain (OpenSpec.ofChange arraySwapsSpec)) arraySwapsCard

/-- THE TIED CARD OF 'simulcastlaw39.ArrayWild'. -/
def arrayWildCard : Claim7 := { stood := { row := arrayWildRow, standIns := [], harness := (true, "b9530f391fc96e3f4485f1e0bb62de64e30c7b22471303385892b0e10d98af6c"), looks := false }, kinds := [], alts := [], laidByText := true, laidKinds := [.data], laidTests := true, laidLooks := .later }
def ArrayWildCardSaid : Prop := Claim7.holds Tryd.pinned (.plain (OpenSpec.ofChange arrayWildSpec)) arrayWildCard

/-- THE SECOND FORM's CARD OF 'simulcastlaw39.ArrayDrains'. -/
def arrayDrainsUptoCard : Claim7 := { stood := { row := arrayDrainsUptoRow, standIns := [], harness := (true, "b9530f391fc96e3f4485f1e0bb62de64e30c7b22471303385892b0e10d98af6c"), looks := false }, kinds := [], alts := [], laidByText := true, laidKinds := [.data], laidTests := true, laidLooks := .later }
def ArrayDrainsUptoCardSaid : Prop := Claim7.holds Tryd.pinned (.plain (OpenSpec.upto arrayDrainsSpec)) arrayDrainsUptoCard

/-- THE SECOND FORM's CARD OF 'simulcastlaw39.ArrayPlays'. -/
def arrayPlaysUptoCard : Claim7 := { stood := { row := arrayPlaysUptoRow, standIns := [], harness := (true, "b9530f391fc96e3f4485f1e0bb62de64e30c7b22471303385892b0e10d98af6c"), looks := false }, kinds := [], alts := [], laidByText := true, laidKinds := [.data], laidTests := true, laidLooks := .later }
def ArrayPlaysUptoCardSaid : Prop := Claim7.holds Tryd.pinned (.plain (OpenSpec.upto arrayPlaysSpec)) arrayPlaysUptoCard

/-- THE SECOND FORM's CARD OF 'simulcastlaw39.ArraySwaps'. -/
def arraySwapsUptoCard : Claim7 := { stood := { row := arraySwapsUptoRow, standIns := [], harness := (true, "b9530f391fc96e3f4485f1e0bb62de64e30c7b22471303385892b0e10d98af6c"), looks := false }, kinds := [], alts := [], laidByText := true, laidKinds := [.data], laidTests := true, laidLooks := .later }
def ArraySwapsUptoCardSaid : Prop := Claim7.holds Tryd.pinned (.plain (OpenSpec.upto arraySwapsSpec)) arraySwapsUptoCard

/-- THE SECOND FORM's CARD OF 'simulcastlaw39.ArrayWild'. -/
def arrayWildUptoCard : Claim7 := { stood := { row := arrayWildUptoRow, standIns := [], harness := (true, "b9530f391fc96e3f4485f1e0bb62de64e30c7b22471303385892b0e10d98af6c"), looks := false }, kinds := [], alts := [], laidByText := true, laidKinds := [.data], laidTests := true, laidLooks := .later }
def ArrayWildUptoCardSaid : Prop := Claim7.holds Tryd.pinned (.plain (OpenSpec.upto arrayWildSpec)) arrayWildUptoCard
end Rows
end Go.Proofs.YtilnknokgflkjaaDoor
