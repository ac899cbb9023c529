/-
  DERIVED. GIVEN WITH THE SEED: THE CARDS: each row of YtikackodhiollaaGreatDoorRows.lean that lists a variable, with what it lists TIED to the program's text (the seventh form; the later family's looks); each row that meets fmt, with fmt's text TOLD by the authors' own Lean function (tested against real Go, not proved from fmt's source: count such statements apart). THE CARD IS WHAT COUNTS. Prove the row's statement (the work); the ties are given (YtikackodhiollaaGreatDoorTie.lean); close each card by the builder's one call (the guide's Derived/Test/ToyasCard.lean, 'card_holds'). Laid BY PROGRAM, IN A SANDBOX (cutbox-door.mjs). By AI agents, Wed Nov 11 2026. No macro, syntax, notation, axiom, sorry.
-/
import Derived.Test.YtikackodhiollaaGreatDoorRows
import GoSem.ClaimSeven
namespace Go.Proofs.YtikackodhiollaaGreatDoor
namespace Rows

/-- THE TIED CARD OF 'simulcasttop.TopExplored'. -/
def topExploredCard : Claim7 := { stood := { row := topExploredRow, standIns := [], harness := (true, "e76db6b58949a429ef7dede60a33d6233d1781495410dacc15eb7744f81aa0d6"), looks := true }, kinds := [], alts := [], laidByText := true, laidKinds := [.data, .data, .data], laidTests := true, laidLooks := .later }
def TopExploredCardSaid : Prop := Claim7.holds Tryz.pinned (.plain (OpenSpec.ofChange topExploredSpec)) topExploredCard

/-- THE SECOND FORM's CARD OF 'simulcasttop.TopExplored'. -/
def topExploredUptoCard : Claim7 := { stood := { row := topExploredUptoRow, standIns := [], harness := (true, "e76db6b58949a429ef7dede60a33d6233d1781495410dacc15eb7744f81aa0d6"), looks := true }, kinds := [], alts := [], laidByText := true, laidKinds := [.data, .data, .data], laidTests := true, laidLooks := .later }
def TopExploredUptoCardSaid : Prop := Claim7.holds Tryz.pinned (.plain (OpenSpec.upto topExploredSpec)) topExploredUptoCard
end Rows
end Go.Proofs.YtikackodhiollaaGreatDoor
