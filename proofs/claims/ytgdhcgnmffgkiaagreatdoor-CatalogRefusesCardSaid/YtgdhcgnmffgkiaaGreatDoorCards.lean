/-
  DERIVED. GIVEN WITH THE SEED: THE CARDS: each row of YtgdhcgnmffgkiaaGreatDoorRows.lean that lists a variable, with what it lists TIED to the program's text (the seventh form; the later family's looks); each row that meets fmt, with fmt's text TOLD by the authors' own Lean function (tested against real Go, not proved from fmt's source: count such statements apart). THE CARD IS WHAT COUNTS. Prove the row's statement (the work); the ties are given (YtgdhcgnmffgkiaaGreatDoorTie.lean); close each card by the builder's one call (the guide's Derived/Test/ToyasCard.lean, 'card_holds'). Laid BY PROGRAM, IN A SANDBOX (cutbox-door.mjs). By AI agents, Wed Nov 11 2026. No macro, syntax, notation, axiom, sorry.
-/
import Derived.Test.YtgdhcgnmffgkiaaGreatDoorRows
import GoSem.ClaimSeven
namespace Go.Proofs.YtgdhcgnmffgkiaaGreatDoor
namespace Rows

/-- THE TIED CARD OF 'simulcastlaw42.CatalogDoes'. -/
def catalogDoesCard : Claim7 := { stood := { row := catalogDoesRow, standIns := [], harness := (true, "e82b0f95ab25df48c8a246f43b1ba122a3b83a13a8e90fa58a70675018bab0c4"), looks := false }, kinds := [], alts := [], laidByText := true, laidKinds := [.data], laidTests := true, laidLooks := .later }
def CatalogDoesCardSaid : Prop := Claim7.holds Tryz.pinned (.plain (OpenSpec.ofChange catalogDoesSpec)) catalogDoesCard

/-- THE TIED CARD OF 'simulcastlaw42.CatalogRefuses'. -/
def catalogRefusesCard : Claim7 := { stood := { row := catalogRefusesRow, standIns := [], harness := (true, "e82b0f95ab25df48c8a246f43b1ba122a3b83a13a8e90fa58a70675018bab0c4"), looks := false }, kinds := [], alts := [], laidByText := true, laidKinds := [.data], laidTests := true, laidLooks := .later }
def CatalogRefusesCardSaid : Prop := Claim7.holds Tryz.pinned (.plain (OpenSpec.ofChange catalogRefusesSpec)) catalogRefusesCard

/-- THE TIED CARD OF 'simulcastlaw42.CatalogWrites'. -/
def catalogWritesCard : Claim7 := { stood := { row := catalogWritesRow, standIns := [], harness := (true, "e82b0f95ab25df48c8a246f43b1ba122a3b83a13a8e90fa58a70675018bab0c4"), looks := false }, kinds := [], alts := [], laidByText := true, laidKinds := [.data], laidTests := true, laidLooks := .later }
def CatalogWritesCardSaid : Prop := Claim7.holds Tryz.pinned (.plain (OpenSpec.ofChange catalogWritesSpec)) catalogWritesCard

/-- THE TIED CARD OF 'simulcastlaw42.CatalogStarts'. -/
def catalogStartsCard : Claim7 := { stood := { row := catalogStartsRow, standIns := [], harness := (true, "e82b0f95ab25df48c8a246f43b1ba122a3b83a13a8e90fa58a70675018bab0c4"), looks := false }, kinds := [], alts := [], laidByText := true, laidKinds := [.data], laidTests := true, laidLooks := .later }
def CatalogStartsCardSaid : Prop := Claim7.holds Tryz.pinned (.plain (OpenSpec.ofChange catalogStartsSpec)) catalogStartsCard

/-- THE TIED CARD OF 'simulcastlaw42.CatalogLists'. -/
def catalogListsCard : Claim7 := { stood := { row := catalogListsRow, standIns := [], harness := (true, "e82b0f95ab25df48c8a246f43b1ba122a3b83a13a8e90fa58a70675018bab0c4"), looks := false }, kinds := [], alts := [], laidByText := true, laidKinds := [.data], laidTests := true, laidLooks := .later }
def CatalogListsCardSaid : Prop := Claim7.holds Tryz.pinned (.plain (OpenSpec.ofChange catalogListsSpec)) catalogListsCard

/-- THE SECOND FORM's CARD OF 'simulcastlaw42.CatalogDoes'. -/
def catalogDoesUptoCard : Claim7 := { stood := { row := catalogDoesUptoRow, standIns := [], harness := (true, "e82b0f95ab25df48c8a246f43b1ba122a3b83a13a8e90fa58a70675018bab0c4"), looks := false }, kinds := [], alts := [], laidByText := true, laidKinds := [.data], laidTests := true, laidLooks := .later }
def CatalogDoesUptoCardSaid : Prop := Claim7.holds Tryz.pinned (.plain (OpenSpec.upto catalogDoesSpec)) catalogDoesUptoCard

/-- THE SECOND FORM's CARD OF 'simulcastlaw42.CatalogRefuses'. -/
def catalogRefusesUptoCard : Claim7 := { stood := { row := catalogRefusesUptoRow, standIns := [], harness := (true, "e82b0f95ab25df48c8a246f43b1ba122a3b83a13a8e90fa58a70675018bab0c4"), looks := false }, kinds := [], alts := [], laidByText := true, laidKinds := [.data], laidTests := true, laidLooks := .later }
def CatalogRefusesUptoCardSaid : Prop := Claim7.holds Tryz.pinned (.plain (OpenSpec.upto catalogRefusesSpec)) catalogRefusesUptoCard

/-- THE SECOND FORM's CARD OF 'simulcastlaw42.CatalogWrites'. -/
def catalogWritesUptoCard : Claim7 := { stood := { row := catalogWritesUptoRow, standIns := [], harness := (true, "e82b0f95ab25df48c8a246f43b1ba122a3b83a13a8e90fa58a70675018bab0c4"), looks := false }, kinds := [], alts := [], laidByText := true, laidKinds := [.data], laidTests := true, laidLooks := .later }
def CatalogWritesUptoCardSaid : Prop := Claim7.holds Tryz.pinned (.plain (OpenSpec.upto catalogWritesSpec)) catalogWritesUptoCard

/-- THE SECOND FORM's CARD OF 'simulcastlaw42.CatalogStarts'. -/
def catalogStartsUptoCard : Claim7 := { stood := { row := catalogStartsUptoRow, standIns := [], harness := (true, "e82b0f95ab25df48c8a246f43b1ba122a3b83a13a8e90fa58a70675018bab0c4"), looks := false }, kinds := [], alts := [], laidByText := true, laidKinds := [.data], laidTests := true, laidLooks := .later }
def CatalogStartsUptoCardSaid : Prop := Claim7.holds Tryz.pinned (.plain (OpenSpec.upto catalogStartsSpec)) catalogStartsUptoCard

/-- THE SECOND FORM's CARD OF 'simulcastlaw42.CatalogLists'. -/
def catalogListsUptoCard : Claim7 := { stood := { row := catalogListsUptoRow, standIns := [], harness := (true, "e82b0f95ab25df48c8a246f43b1ba122a3b83a13a8e90fa58a70675018bab0c4"), looks := false }, kinds := [], alts := [], laidByText := true, laidKinds := [.data], laidTests := true, laidLooks := .later }
def CatalogListsUptoCardSaid : Prop := Claim7.holds Tryz.pinned (.plain (OpenSpec.upto catalogListsSpec)) catalogListsUptoCard
end Rows
end Go.Proofs.YtgdhcgnmffgkiaaGreatDoor
