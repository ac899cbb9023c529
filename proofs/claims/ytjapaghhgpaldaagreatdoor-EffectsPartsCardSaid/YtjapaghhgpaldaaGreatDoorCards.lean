/-
  DERIVED. GIVEN WITH THE SEED: THE CARDS: each row of YtjapaghhgpaldaaGreatDoorRows.lean that lists a variable, with what it lists TIED to the program's text (the seventh form; the later family's looks); each row that meets fmt, with fmt's text TOLD by the authors' own Lean function (tested against real Go, not proved from fmt's source: count such statements apart). THE CARD IS WHAT COUNTS. Prove the row's statement (the work); the ties are given (YtjapaghhgpaldaaGreatDoorTie.lean); close each card by the builder's one call (the guide's Derived/Test/ToyasCard.lean, 'card_holds'). Laid BY PROGRAM, IN A SANDBOX (cutbox-door.mjs). By AI agents, Wed Nov 11 2026. No macro, syntax, notation, axiom, sorry.
-/
import Derived.Test.YtjapaghhgpaldaaGreatDoorRows
import GoSem.ClaimSeven
namespace Go.Proofs.YtjapaghhgpaldaaGreatDoor
namespace Rows

/-- THE TIED CARD OF 'simulcastlaw47.EffectsParts'. -/
def effectsPartsCard : Claim7 := { stood := { row := effectsPartsRow, standIns := [], harness := (true, "d65b15a91b9685c2ba24c3902ea80b89174cc3c41e5e6e8a46a97760f89db51b"), looks := false }, kinds := [], alts := [], laidByText := true, laidKinds := [.widerDeep, .data], laidTests := true, laidLooks := .later }
def EffectsPartsCardSaid : Prop := Claim7.holds Tryz.pinned (.plain (OpenSpec.ofChange effectsPartsSpec)) effectsPartsCard

/-- THE TIED CARD OF 'simulcastlaw47.EffectsRepeats'. -/
def effectsRepeatsCard : Claim7 := { stood := { row := effectsRepeatsRow, standIns := [], harness := (true, "d65b15a91b9685c2ba24c3902ea80b89174cc3c41e5e6e8a46a97760f89db51b"), looks := false }, kinds := [], alts := [], laidByText := true, laidKinds := [.widerDeep, .data], laidTests := true, laidLooks := .later }
def EffectsRepeatsCardSaid : Prop := Claim7.holds Tryz.pinned (.plain (OpenSpec.ofChange effectsRepeatsSpec)) effectsRepeatsCard

/-- THE TIED CARD OF 'simulcastlaw47.EffectsGroups'. -/
def effectsGroupsCard : Claim7 := { stood := { row := effectsGroupsRow, standIns := [], harness := (true, "d65b15a91b9685c2ba24c3902ea80b89174cc3c41e5e6e8a46a97760f89db51b"), looks := false }, kinds := [], alts := [], laidByText := true, laidKinds := [.widerDeep, .data], laidTests := true, laidLooks := .later }
def EffectsGroupsCardSaid : Prop := Claim7.holds Tryz.pinned (.plain (OpenSpec.ofChange effectsGroupsSpec)) effectsGroupsCard

/-- THE TIED CARD OF 'simulcastlaw47.EffectsJoin'. -/
def effectsJoinCard : Claim7 := { stood := { row := effectsJoinRow, standIns := [], harness := (true, "d65b15a91b9685c2ba24c3902ea80b89174cc3c41e5e6e8a46a97760f89db51b"), looks := false }, kinds := [], alts := [], laidByText := true, laidKinds := [.widerDeep, .data], laidTests := true, laidLooks := .later }
def EffectsJoinCardSaid : Prop := Claim7.holds Tryz.pinned (.plain (OpenSpec.ofChange effectsJoinSpec)) effectsJoinCard

/-- THE TIED CARD OF 'simulcastlaw47.EffectsOf'. -/
def effectsOfCard : Claim7 := { stood := { row := effectsOfRow, standIns := [], harness := (true, "d65b15a91b9685c2ba24c3902ea80b89174cc3c41e5e6e8a46a97760f89db51b"), looks := false }, kinds := [], alts := [], laidByText := true, laidKinds := [.widerDeep, .data], laidTests := true, laidLooks := .later }
def EffectsOfCardSaid : Prop := Claim7.holds Tryz.pinned (.plain (OpenSpec.ofChange effectsOfSpec)) effectsOfCard

/-- THE SECOND FORM's CARD OF 'simulcastlaw47.EffectsParts'. -/
def effectsPartsUptoCard : Claim7 := { stood := { row := effectsPartsUptoRow, standIns := [], harness := (true, "d65b15a91b9685c2ba24c3902ea80b89174cc3c41e5e6e8a46a97760f89db51b"), looks := false }, kinds := [], alts := [], laidByText := true, laidKinds := [.widerDeep, .data], laidTests := true, laidLooks := .later }
def EffectsPartsUptoCardSaid : Prop := Claim7.holds Tryz.pinned (.plain (OpenSpec.upto effectsPartsSpec)) effectsPartsUptoCard

/-- THE SECOND FORM's CARD OF 'simulcastlaw47.EffectsRepeats'. -/
def effectsRepeatsUptoCard : Claim7 := { stood := { row := effectsRepeatsUptoRow, standIns := [], harness := (true, "d65b15a91b9685c2ba24c3902ea80b89174cc3c41e5e6e8a46a97760f89db51b"), looks := false }, kinds := [], alts := [], laidByText := true, laidKinds := [.widerDeep, .data], laidTests := true, laidLooks := .later }
def EffectsRepeatsUptoCardSaid : Prop := Claim7.holds Tryz.pinned (.plain (OpenSpec.upto effectsRepeatsSpec)) effectsRepeatsUptoCard

/-- THE SECOND FORM's CARD OF 'simulcastlaw47.EffectsGroups'. -/
def effectsGroupsUptoCard : Claim7 := { stood := { row := effectsGroupsUptoRow, standIns := [], harness := (true, "d65b15a91b9685c2ba24c3902ea80b89174cc3c41e5e6e8a46a97760f89db51b"), looks := false }, kinds := [], alts := [], laidByText := true, laidKinds := [.widerDeep, .data], laidTests := true, laidLooks := .later }
def EffectsGroupsUptoCardSaid : Prop := Claim7.holds Tryz.pinned (.plain (OpenSpec.upto effectsGroupsSpec)) effectsGroupsUptoCard

/-- THE SECOND FORM's CARD OF 'simulcastlaw47.EffectsJoin'. -/
def effectsJoinUptoCard : Claim7 := { stood := { row := effectsJoinUptoRow, standIns := [], harness := (true, "d65b15a91b9685c2ba24c3902ea80b89174cc3c41e5e6e8a46a97760f89db51b"), looks := false }, kinds := [], alts := [], laidByText := true, laidKinds := [.widerDeep, .data], laidTests := true, laidLooks := .later }
def EffectsJoinUptoCardSaid : Prop := Claim7.holds Tryz.pinned (.plain (OpenSpec.upto effectsJoinSpec)) effectsJoinUptoCard

/-- THE SECOND FORM's CARD OF 'simulcastlaw47.EffectsOf'. -/
def effectsOfUptoCard : Claim7 := { stood := { row := effectsOfUptoRow, standIns := [], harness := (true, "d65b15a91b9685c2ba24c3902ea80b89174cc3c41e5e6e8a46a97760f89db51b"), looks := false }, kinds := [], alts := [], laidByText := true, laidKinds := [.widerDeep, .data], laidTests := true, laidLooks := .later }
def EffectsOfUptoCardSaid : Prop := Claim7.holds Tryz.pinned (.plain (OpenSpec.upto effectsOfSpec)) effectsOfUptoCard
end Rows
end Go.Proofs.YtjapaghhgpaldaaGreatDoor
