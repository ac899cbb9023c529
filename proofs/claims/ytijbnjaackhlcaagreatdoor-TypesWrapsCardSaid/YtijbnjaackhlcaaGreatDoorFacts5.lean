import Derived.Test.YtijbnjaackhlcaaGreatDoorRows
import Derived.Test.YtijbnjaackhlcaaGreatDoorTie
import Derived.Test.YtijbnjaackhlcaaGreatDoorCards
import Derived.SevenTiedAt
import Derived.OpenShut
import Derived.Handed
import Derived.Lib.LaidTab
/- Lemmas and walks for the claims of this seat (own work): Hf5. -/
namespace Go.Proofs.YtijbnjaackhlcaaGreatDoor
open Go.ChangeShapes Go.WideShapes Go.RowKit
set_option maxRecDepth 100000
theorem twraps_and {a b : Bool} (h1 : a = true) (h2 : b = true) : (a && b) = true := by rw [h1, h2]; rfl
set_option maxHeartbeats 100000000 in
theorem twraps_facts : joinedFacts Tryz.prog 4 Tryz.f4 Rows.typesWrapsSpec Rows.typesWrapsRow = true := by
  unfold joinedFacts
  repeat' (with_reducible refine twraps_and ?_ ?_)
  all_goals decide +kernel
set_option maxHeartbeats 100000000 in
theorem twraps_goes : false = Rows.typesWrapsRow.goesBy Tryz.prog := by decide +kernel
set_option maxHeartbeats 100000000 in
theorem twraps_looks : false = Tryz.prog.looks [] := by decide +kernel
end Go.Proofs.YtijbnjaackhlcaaGreatDoor

