import Derived.Test.YtgdhcgnmffgkiaaGreatDoorRows
import Derived.Test.YtgdhcgnmffgkiaaGreatDoorTie
import Derived.Test.YtgdhcgnmffgkiaaGreatDoorCards
import Derived.SevenTiedAt
import Derived.OpenShut
import Derived.Handed
import Derived.Lib.LaidTab
/- Own work: lemmas of this claim. -/
namespace Go.Proofs.YtgdhcgnmffgkiaaGreatDoor
open Go.ChangeShapes Go.WideShapes Go.RowKit
set_option maxRecDepth 100000
theorem crefuses_and {a b : Bool} (h1 : a = true) (h2 : b = true) : (a && b) = true := by rw [h1, h2]; rfl
set_option maxHeartbeats 100000000 in
theorem crefuses_facts : joinedFacts Tryz.prog 4 Tryz.f4 Rows.catalogRefusesSpec Rows.catalogRefusesRow = true := by
 unfold joinedFacts
 repeat' (with_reducible refine crefuses_and ?_ ?_)
 all_goals decide +kernel
set_option maxHeartbeats 100000000 in
theorem crefuses_goes : false = Rows.catalogRefusesRow.goesBy Tryz.prog := by decide +kernel
set_option maxHeartbeats 100000000 in
theorem crefuses_looks : false = Tryz.prog.looks [] := by decide +kernel
end Go.Proofs.YtgdhcgnmffgkiaaGreatDoor
