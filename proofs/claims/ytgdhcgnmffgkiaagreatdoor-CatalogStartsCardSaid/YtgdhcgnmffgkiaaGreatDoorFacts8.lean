import Derived.Test.YtgdhcgnmffgkiaaGreatDoorRows
import Derived.Test.YtgdhcgnmffgkiaaGreatDoorTie
import Derived.Test.YtgdhcgnmffgkiaaGreatDoorCards
import Derived.SevenTiedAt
import Derived.OpenShut
import Derived.Handed
import Derived.Lib.LaidTab
/- Lemmas and walks for the claims of this seat (own work): Hf8. -/
namespace Go.Proofs.YtgdhcgnmffgkiaaGreatDoor
open Go.ChangeShapes Go.WideShapes Go.RowKit
set_option maxRecDepth 100000
theorem cstarts_and {a b : Bool} (h1 : a = true) (h2 : b = true) : (a && b) = true := by rw [h1, h2]; rfl
set_option maxHeartbeats 100000000 in
theorem cstarts_facts : joinedFacts Tryz.prog 6 Tryz.f6 Rows.catalogStartsSpec Rows.catalogStartsRow = true := by
  unfold joinedFacts
  repeat' (with_reducible refine cstarts_and ?_ ?_)
  all_goals decide +kernel
set_option maxHeartbeats 100000000 in
theorem cstarts_goes : false = Rows.catalogStartsRow.goesBy Tryz.prog := by decide +kernel
set_option maxHeartbeats 100000000 in
theorem cstarts_looks : false = Tryz.prog.looks [] := by decide +kernel
end Go.Proofs.YtgdhcgnmffgkiaaGreatDoor

