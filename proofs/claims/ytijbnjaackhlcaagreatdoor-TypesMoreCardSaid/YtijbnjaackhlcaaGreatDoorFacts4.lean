import Derived.Test.YtijbnjaackhlcaaGreatDoorRows
import Derived.Test.YtijbnjaackhlcaaGreatDoorTie
import Derived.Test.YtijbnjaackhlcaaGreatDoorCards
import Derived.SevenTiedAt
import Derived.OpenShut
import Derived.Handed
import Derived.Lib.LaidTab
/- Lemmas and walks for the claims of this seat (own work): Hf4. -/
namespace Go.Proofs.YtijbnjaackhlcaaGreatDoor
open Go.ChangeShapes Go.WideShapes Go.RowKit
set_option maxRecDepth 100000
theorem tmore_and {a b : Bool} (h1 : a = true) (h2 : b = true) : (a && b) = true := by rw [h1, h2]; rfl
set_option maxHeartbeats 100000000 in
theorem tmore_facts : joinedFacts Tryz.prog 8 Tryz.f8 Rows.typesMoreSpec Rows.typesMoreRow = true := by
  unfold joinedFacts
  repeat' (with_reducible refine tmore_and ?_ ?_)
  all_goals decide +kernel
set_option maxHeartbeats 100000000 in
theorem tmore_goes : false = Rows.typesMoreRow.goesBy Tryz.prog := by decide +kernel
set_option maxHeartbeats 100000000 in
theorem tmore_looks : false = Tryz.prog.looks [] := by decide +kernel
end Go.Proofs.YtijbnjaackhlcaaGreatDoor

