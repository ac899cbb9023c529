import Derived.Test.YtjapaghhgpaldaaGreatDoorRows
import Derived.Test.YtjapaghhgpaldaaGreatDoorTie
import Derived.Test.YtjapaghhgpaldaaGreatDoorCards
import Derived.SevenTiedAt
import Derived.OpenShut
import Derived.Handed
import Derived.Lib.LaidTab
/- Lemmas and walks for the claims of this seat (own work): Gf4. -/
namespace Go.Proofs.YtjapaghhgpaldaaGreatDoor
open Go.ChangeShapes Go.WideShapes Go.RowKit
set_option maxRecDepth 100000
theorem parts_and {a b : Bool} (h1 : a = true) (h2 : b = true) : (a && b) = true := by rw [h1, h2]; rfl
set_option maxHeartbeats 100000000 in
theorem parts_facts : joinedFacts Tryz.prog 3 Tryz.f3 Rows.effectsPartsSpec Rows.effectsPartsRow = true := by
  unfold joinedFacts
  repeat' (with_reducible refine parts_and ?_ ?_)
  all_goals decide +kernel
set_option maxHeartbeats 100000000 in
theorem parts_goes : false = Rows.effectsPartsRow.goesBy Tryz.prog := by decide +kernel
set_option maxHeartbeats 100000000 in
theorem parts_looks : false = Tryz.prog.looks [] := by decide +kernel
end Go.Proofs.YtjapaghhgpaldaaGreatDoor

