import Derived.Test.YtijbnjaackhlcaaGreatDoorRows
import Derived.Test.YtijbnjaackhlcaaGreatDoorTie
import Derived.Test.YtijbnjaackhlcaaGreatDoorCards
import Derived.SevenTiedAt
import Derived.OpenShut
import Derived.Handed
import Derived.Lib.LaidTab
/- Lemmas and walks for the claims of this seat (own work): Hf2. -/
namespace Go.Proofs.YtijbnjaackhlcaaGreatDoor
open Go.ChangeShapes Go.WideShapes Go.RowKit
set_option maxRecDepth 100000
theorem tvars_and {a b : Bool} (h1 : a = true) (h2 : b = true) : (a && b) = true := by rw [h1, h2]; rfl
set_option maxHeartbeats 100000000 in
theorem tvars_facts : joinedFacts Tryz.prog 7 Tryz.f7 Rows.typesVarsSpec Rows.typesVarsRow = true := by
  unfold joinedFacts
  repeat' (with_reducible refine tvars_and ?_ ?_)
  all_goals decide +kernel
set_option maxHeartbeats 100000000 in
theorem tvars_goes : false = Rows.typesVarsRow.goesBy Tryz.prog := by decide +kernel
set_option maxHeartbeats 100000000 in
theorem tvars_looks : false = Tryz.prog.looks [] := by decide +kernel
end Go.Proofs.YtijbnjaackhlcaaGreatDoor

