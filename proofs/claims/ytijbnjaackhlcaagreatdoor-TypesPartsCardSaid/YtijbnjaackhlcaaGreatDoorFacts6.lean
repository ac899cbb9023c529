import Derived.Test.YtijbnjaackhlcaaGreatDoorRows
import Derived.Test.YtijbnjaackhlcaaGreatDoorTie
import Derived.Test.YtijbnjaackhlcaaGreatDoorCards
import Derived.SevenTiedAt
import Derived.OpenShut
import Derived.Handed
import Derived.Lib.LaidTab
/- Lemmas and walks for the claims of this seat (own work): Hf6. -/
namespace Go.Proofs.YtijbnjaackhlcaaGreatDoor
open Go.ChangeShapes Go.WideShapes Go.RowKit
set_option maxRecDepth 100000
theorem tparts_and {a b : Bool} (h1 : a = true) (h2 : b = true) : (a && b) = true := by rw [h1, h2]; rfl
set_option maxHeartbeats 100000000 in
theorem tparts_facts : joinedFacts Tryz.prog 3 Tryz.f3 Rows.typesPartsSpec Rows.typesPartsRow = true := by
  unfold joinedFacts
  repeat' (with_reducible refine tparts_and ?_ ?_)
  all_goals decide +kernel
set_option maxHeartbeats 100000000 in
theorem tparts_goes : false = Rows.typesPartsRow.goesBy Tryz.prog := by decide +kernel
set_option maxHeartbeats 100000000 in
theorem tparts_looks : false = Tryz.prog.looks [] := by decide +kernel
end Go.Proofs.YtijbnjaackhlcaaGreatDoor

