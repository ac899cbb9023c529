import Derived.Test.YtijbnjaackhlcaaGreatDoorRows
import Derived.Test.YtijbnjaackhlcaaGreatDoorTie
import Derived.Test.YtijbnjaackhlcaaGreatDoorCards
import Derived.SevenTiedAt
import Derived.OpenShut
import Derived.Handed
import Derived.Lib.LaidTab
/- Lemmas and walks for the claims of this seat (own work): Hf1. -/
namespace Go.Proofs.YtijbnjaackhlcaaGreatDoor
open Go.ChangeShapes Go.WideShapes Go.RowKit
set_option maxRecDepth 100000
theorem tcheck_and {a b : Bool} (h1 : a = true) (h2 : b = true) : (a && b) = true := by rw [h1, h2]; rfl
set_option maxHeartbeats 100000000 in
theorem tcheck_facts : joinedFacts Tryz.prog 6 Tryz.f6 Rows.typesCheckSpec Rows.typesCheckRow = true := by
  unfold joinedFacts
  repeat' (with_reducible refine tcheck_and ?_ ?_)
  all_goals decide +kernel
set_option maxHeartbeats 100000000 in
theorem tcheck_goes : false = Rows.typesCheckRow.goesBy Tryz.prog := by decide +kernel
set_option maxHeartbeats 100000000 in
theorem tcheck_looks : false = Tryz.prog.looks [] := by decide +kernel
end Go.Proofs.YtijbnjaackhlcaaGreatDoor

