import Derived.Test.YtfnjeldpfilplaaGreatDoorRows
import Derived.Test.YtfnjeldpfilplaaGreatDoorTie
import Derived.Test.YtfnjeldpfilplaaGreatDoorCards
import Derived.SevenTiedAt
import Derived.OpenShut
import Derived.Handed
import Derived.Lib.LaidTab
/- Lemmas and walks for the claims of this seat (own work): Of3. -/
namespace Go.Proofs.YtfnjeldpfilplaaGreatDoor
open Go.ChangeShapes Go.WideShapes Go.RowKit
set_option maxRecDepth 100000
theorem pshape_and {a b : Bool} (h1 : a = true) (h2 : b = true) : (a && b) = true := by rw [h1, h2]; rfl
set_option maxHeartbeats 100000000 in
theorem pshape_facts : joinedFacts Tryz.prog 5 Tryz.f5 Rows.planShapeSpec Rows.planShapeRow = true := by
  unfold joinedFacts
  repeat' (with_reducible refine pshape_and ?_ ?_)
  all_goals decide +kernel
set_option maxHeartbeats 100000000 in
theorem pshape_goes : false = Rows.planShapeRow.goesBy Tryz.prog := by decide +kernel
set_option maxHeartbeats 100000000 in
theorem pshape_looks : false = Tryz.prog.looks [] := by decide +kernel
end Go.Proofs.YtfnjeldpfilplaaGreatDoor

