import Derived.Test.YtagmagnkigjggaaGreatDoorRows
import Derived.Test.YtagmagnkigjggaaGreatDoorTie
import Derived.Test.YtagmagnkigjggaaGreatDoorCards
import Derived.SevenTiedAt
import Derived.OpenShut
import Derived.Handed
import Derived.Lib.LaidTab
/- Lemmas and walks for the claims of this seat (own work): Gf5. -/
namespace Go.Proofs.YtagmagnkigjggaaGreatDoor
open Go.ChangeShapes Go.WideShapes Go.RowKit
set_option maxRecDepth 100000
theorem oflaw_and {a b : Bool} (h1 : a = true) (h2 : b = true) : (a && b) = true := by rw [h1, h2]; rfl
set_option maxHeartbeats 100000000 in
theorem oflaw_facts : joinedFacts Tryz.prog 3 Tryz.f3 Rows.effectsOfSpec Rows.effectsOfRow = true := by
  unfold joinedFacts
  repeat' (with_reducible refine oflaw_and ?_ ?_)
  all_goals decide +kernel
set_option maxHeartbeats 100000000 in
theorem oflaw_goes : false = Rows.effectsOfRow.goesBy Tryz.prog := by decide +kernel
set_option maxHeartbeats 100000000 in
theorem oflaw_looks : false = Tryz.prog.looks [] := by decide +kernel
end Go.Proofs.YtagmagnkigjggaaGreatDoor

