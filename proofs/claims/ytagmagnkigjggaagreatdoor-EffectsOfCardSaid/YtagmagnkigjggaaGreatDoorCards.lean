/-
  DERIVED. GIVEN WITH THE SEED: THE CARDS: each row of YtagmagnkigjggaaGreatDoorRows.lean that lists a variable, with what it lists TIED to the program's text (the seventh form; the later family's looks); each row that meets fmt, with fmt's text TOLD by the authors' own Lean function (tested against real Go, not proved from fmt's source: count such statements apart). THE CARD IS WHAT COUNTS. Prove the row's statement (the work); the ties are given (YtagmagnkigjggaaGreatDoorTie.lean); close each card by the builder's one call (the guide's Derived/Test/ToyasCard.lean, 'card_holds'). Laid BY PROGRAM, IN A SANDBOX (cutbox-door.mjs). By AI agents, Wed Nov 11 2026. No macro, syntax, notation, axiom, sorry.
-/
import Derived.Test.YtagmagnkigjggaaGreatDoorRows
import GoSem.ClaimSeven
namespace Go.Proofs.YtagmagnkigjggaaGreatDoor
namespace Rows

/-- THE TIED CARD OF 'simulcastlaw47.EffectsOf'. -/
def effectsOfCard : Claim7 := { stood := { row := effectsOfRow, standIns := [], harness := (true, "76c248ec64d617e4081ce5cf2d95303dae433bf61094b5d7318575b256b8cccb"), looks := false }, kinds := [], alts := [], laidByText := true, laidKinds := [.widerDeep, .data], laidTests := true, laidLooks := .later }
def EffectsOfCardSaid : Prop := Claim7.holds Tryz.pinned (.plain (OpenSpec.ofChange effectsOfSpec)) effectsOfCard

/-- THE SECOND FORM's CARD OF 'simulcastlaw47.EffectsOf'. -/
def effectsOfUptoCard : Claim7 := { stood := { row := effectsOfUptoRow, standIns := [], harness := (true, "76c248ec64d617e4081ce5cf2d95303dae433bf61094b5d7318575b256b8cccb"), looks := false }, kinds := [], alts := [], laidByText := true, laidKinds := [.widerDeep, .data], laidTests := true, laidLooks := .later }
def EffectsOfUptoCardSaid : Prop := Claim7.holds Tryz.pinned (.plain (OpenSpec.upto effectsOfSpec)) effectsOfUptoCard
end Rows
end Go.Proofs.YtagmagnkigjggaaGreatDoor
