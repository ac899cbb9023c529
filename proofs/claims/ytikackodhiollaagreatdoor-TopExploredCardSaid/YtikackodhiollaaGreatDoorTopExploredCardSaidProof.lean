import Derived.Test.YtikackodhiollaaGreatDoorPart12
/- TopExplored: for all numbers a and b and every list of operations the Go function TopExplored of package simulcasttop returns true, and its arguments read afterwards as they read before: at most three known atomic operations on two words, each run as a retry loop, give the same outcomes by the search of all interleavings and by the search with sleep sets, and the final words of these outcomes are exactly those of the sequential orders (or a search gave up at its limit, which the law allows). -/
namespace Go.Proofs.YtikackodhiollaaGreatDoor
open Go.Vc Sim Go.ChangeShapes Go.WideShapes Go.RowKit
set_option maxRecDepth 100000
theorem texp_holds : Rows.TopExploredSaid :=
 OpenClaim.holds_of_wide 3 Tryz.f3 rfl rfl rfl rfl rfl rfl rfl ⟨rfl, rfl, rfl, rfl, rfl⟩ rfl rfl rfl rfl rfl (by kernel_rfl) Tryz.func3 texp_facts
   (of_decide_eq_true (by kernel_rfl)) (by unfold Func.isWrapper; first|(rw [if_pos (by decide +kernel)]; kernel_rfl)|(rw [if_neg (by decide +kernel)]; exact ⟨rfl, rfl⟩))
   (fun os started H enc _ => texp_lifted os started H enc)
theorem texp_card : Rows.TopExploredCardSaid :=
 Claim7.holds_tied_plain_at .later [] [.data, .data, .data] true (true, "e76db6b58949a429ef7dede60a33d6233d1781495410dacc15eb7744f81aa0d6") true
   texp_holds (fun _ h => by cases h) (by kernel_rfl) (fun _ h => by cases h) topExplored_row_tie rfl ⟨rfl, rfl⟩ (by kernel_rfl) rfl
   (fun f fn hf hfn => by
     obtain rfl : f = 3 := Option.some.inj ((show Tryz.prog.funcNamed Rows.topExploredRow.func = some 3 by kernel_rfl).symm.trans hf) |>.symm
     obtain rfl : fn = Tryz.f3 := (Option.some.inj (Tryz.func3.symm.trans hfn)).symm
     exact ⟨texp_looks, fun j t ht => by
       rw [Tryz.params3] at ht
       have hm : t ∈ [2, 2, 22] := by simpa using Array.mem_of_getElem? ht
       have hall : ([2, 2, 22].all fun u => !Tryz.prog.wantsStandIn u) = true := by kernel_rfl
       exact (show Tryz.prog.wantsStandIn t = false by simpa using List.all_eq_true.1 hall t hm)⟩)
   (by first|exact texp_goes | kernel_rfl)
#print axioms texp_card
end Go.Proofs.YtikackodhiollaaGreatDoor
