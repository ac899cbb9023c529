import Derived.Test.YtgdhcgnmffgkiaaGreatDoorRows
import Derived.Test.YtgdhcgnmffgkiaaGreatDoorTie
import Derived.Test.YtgdhcgnmffgkiaaGreatDoorCards
import Derived.SevenTiedAt
import Derived.OpenShut
import Derived.Handed
import Derived.Lib.LaidTab
/- Lemmas and walks for the claims of this seat (own work): Hf7. -/
namespace Go.Proofs.YtgdhcgnmffgkiaaGreatDoor
open Go.ChangeShapes Go.WideShapes Go.RowKit
set_option maxRecDepth 100000
theorem clists_and {a b : Bool} (h1 : a = true) (h2 : b = true) : (a && b) = true := by rw [h1, h2]; rfl
set_option maxHeartbeats 100000000 in
theorem clists_facts : joinedFacts Tryz.prog 7 Tryz.f7 Rows.catalogListsSpec Rows.catalogListsRow = true := by
  unfold joinedFacts
  repeat' (with_reducible refine clists_and ?_ ?_)
  all_goals decide +kernel
set_option maxHeartbeats 100000000 in
theorem clists_goes : false = Rows.catalogListsRow.goesBy Tryz.prog := by decide +kernel
set_option maxHeartbeats 100000000 in
theorem clists_looks : false = Tryz.prog.looks [] := by decide +kernel
end Go.Proofs.YtgdhcgnmffgkiaaGreatDoor

