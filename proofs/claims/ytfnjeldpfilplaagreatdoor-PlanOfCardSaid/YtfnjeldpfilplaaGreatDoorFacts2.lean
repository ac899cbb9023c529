import Derived.Test.YtfnjeldpfilplaaGreatDoorRows
import Derived.Test.YtfnjeldpfilplaaGreatDoorTie
import Derived.Test.YtfnjeldpfilplaaGreatDoorCards
import Derived.SevenTiedAt
import Derived.OpenShut
import Derived.Handed
import Derived.Lib.LaidTab
/- Lemmas and walks for the claims of this seat (own work): Of2. -/
namespace Go.Proofs.YtfnjeldpfilplaaGreatDoor
open Go.ChangeShapes Go.WideShapes Go.RowKit
set_option maxRecDepth 100000
theorem pof_and {a b : Bool} (h1 : a = true) (h2 : b = true) : (a && b) = true := by rw [h1, h2]; rfl
set_option maxHeartbeats 100000000 in
theorem pof_facts : joinedFacts Tryz.prog 4 Tryz.f4 Rows.planOfSpec Rows.planOfRow = true := by
  unfold joinedFacts
  repeat' (with_reducible refine pof_and ?_ ?_)
  all_goals decide +kernel
set_option maxHeartbeats 100000000 in
theorem pof_goes : false = Rows.planOfRow.goesBy Tryz.prog := by decide +kernel
set_option maxHeartbeats 100000000 in
theorem pof_looks : false = Tryz.prog.looks [] := by decide +kernel
end Go.Proofs.YtfnjeldpfilplaaGreatDoor

