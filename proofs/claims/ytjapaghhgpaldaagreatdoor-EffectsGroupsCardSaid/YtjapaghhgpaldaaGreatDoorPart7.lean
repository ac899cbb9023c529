import Derived.Test.YtjapaghhgpaldaaGreatDoorPart6
/- Lemmas and walks for the claims of this seat (own work): Gf1. -/
namespace Go.Proofs.YtjapaghhgpaldaaGreatDoor
open Go.Vc Sim Go.ChangeShapes Go.WideShapes Go.RowKit
set_option maxRecDepth 100000
theorem groups_and {a b : Bool} (h1 : a = true) (h2 : b = true) : (a && b) = true := by rw [h1, h2]; rfl
set_option maxHeartbeats 100000000 in
theorem groups_facts : joinedFacts Tryz.prog 5 Tryz.f5 Rows.effectsGroupsSpec Rows.effectsGroupsRow = true := by
  unfold joinedFacts
  repeat' (with_reducible refine groups_and ?_ ?_)
  all_goals decide +kernel
set_option maxHeartbeats 100000000 in
set_option maxHeartbeats 100000000 in
theorem groups_looks : false = Tryz.prog.looks [] := by decide +kernel
end Go.Proofs.YtjapaghhgpaldaaGreatDoor

