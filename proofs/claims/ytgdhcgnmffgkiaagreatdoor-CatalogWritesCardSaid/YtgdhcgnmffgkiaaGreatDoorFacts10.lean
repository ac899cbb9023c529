import Derived.Test.YtgdhcgnmffgkiaaGreatDoorRows
import Derived.Test.YtgdhcgnmffgkiaaGreatDoorTie
import Derived.Test.YtgdhcgnmffgkiaaGreatDoorCards
import Derived.SevenTiedAt
import Derived.OpenShut
import Derived.Handed
import Derived.Lib.LaidTab
/- Own work: lemmas of this claim. -/
namespace Go.Proofs.YtgdhcgnmffgkiaaGreatDoor
open Go.ChangeShapes Go.WideShapes Go.RowKit
set_option maxRecDepth 100000
theorem cwrites_and {a b : Bool} (h1 : a = true) (h2 : b = true) : (a && b) = true := by rw [h1, h2]; rfl
set_option maxHeartbeats 100000000 in
theorem cwrites_facts : joinedFacts Tryz.prog 5 Tryz.f5 Rows.catalogWritesSpec Rows.catalogWritesRow = true := by
 unfold joinedFacts
 repeat' (with_reducible refine cwrites_and ?_ ?_)
 all_goals decide +kernel
set_option maxHeartbeats 100000000 in
theorem cwrites_goes : false = Rows.catalogWritesRow.goesBy Tryz.prog := by decide +kernel
set_option maxHeartbeats 100000000 in
theorem cwrites_looks : false = Tryz.prog.looks [] := by decide +kernel
end Go.Proofs.YtgdhcgnmffgkiaaGreatDoor
