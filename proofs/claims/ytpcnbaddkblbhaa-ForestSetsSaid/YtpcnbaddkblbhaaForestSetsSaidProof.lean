import Derived.Test.YtpcnbaddkblbhaaPart11
import Derived.Test.YtpcnbaddkblbhaaPart12
/- For every number of nodes and every list of calls the Go function ForestSets of package simulcastlaw41 returns true, and its arguments read afterwards as they read before: Find is idempotent, Same agrees with it, Size and Sets count correctly, and no path has more than six steps. -/
/- The row of ForestSets. -/
namespace Go.Proofs.Ytpcnbaddkblbhaa
open Go.Vc Sim Go.ChangeShapes Go.WideShapes Go.RowKit
set_option maxRecDepth 100000
theorem forestSets_lifted (os : Os) (started : os.Started) (H : Type) (enc : TypeId × Value → H) :
    ReturnsInHanded {} Try.checked os 5 .any (Rows.forestSetsSpec.pre6 enc Try.prog Try.f5 [] false) (Rows.forestSetsSpec.post enc Try.prog Try.f5 false true false false) := by
  refine returnsInHanded_of_change (C := Try.checked) cOwn started (by kernel_rfl) Try.func5
    (ChangeSpec.witness6 (enc := enc) (C := Try.checked) false ⟨#[], #[.int .u8 0, .slice none 0 0], []⟩ 8 (by kernel_rfl) (by kernel_rfl) (by kernel_rfl) (by kernel_rfl)) ?_
  intro W base args ds gs before hval0 hW _ _
  have hval : ∀ (j : Nat) t v, Try.f5.params[j]? = some t → args[j]? = some v → Value.okWide Try.prog W .any base t v := hval0
  have hW' := hW
  obtain ⟨p, q, hA0, hV, rfl, hfz, hnd⟩ := hW
  obtain ⟨rfl, rfl⟩ := trodVars_none hV
  have hA : DataW.TrodAll enc Try.prog W 0 (fun _ => true) true Try.f5.params.toList args.toList ds p := hA0
  rw [Try.params5] at hA hval
  obtain ⟨v0, v1, d0, d1, p0, p1, rfl, rfl, rfl, h0, h1⟩ := trodAll_two hA
  obtain ⟨m, rfl, hm⟩ := in_u8 Try.underlying5 (hval 0 _ _ rfl rfl) h0
  obtain ⟨l, hl, hok⟩ := in_calls (hval 1 _ _ rfl rfl) h1
  refine (calls_of (sets_spec W m hm v1 l hl hok)).mono fun e W' ⟨he, hbl⟩ => ⟨.bool true, he, ?_⟩
  exact law_post (tb := 4) cLaid (by
    rw [Try.params5]
    intro t ht
    have hall : (#[5, 22].toList.all fun t => Try.prog.readableRec t && decide (t < Try.prog.types.size)) = true := by kernel_rfl
    have h := List.all_eq_true.1 hall t ht
    rw [Bool.and_eq_true, decide_eq_true_eq] at h
    exact h) rfl (by kernel_rfl) Try.underlying4 ⟨rfl, rfl, rfl⟩ hW' hbl

theorem forestSets_holds : Rows.ForestSetsSaid :=
  OpenClaim.holds_of_wide 5 Try.f5 rfl rfl rfl rfl rfl rfl rfl ⟨rfl, rfl, rfl, rfl, rfl⟩ rfl rfl rfl rfl rfl (by kernel_rfl) Try.func5 (by kernel_rfl)
    (of_decide_eq_true (by kernel_rfl)) (by unfold Func.isWrapper; first | (rw [if_pos (by decide +kernel)]; kernel_rfl) | (rw [if_neg (by decide +kernel)]; exact ⟨rfl, rfl⟩))
    (fun os started H enc _ => forestSets_lifted os started H enc)
#print axioms forestSets_holds
end Go.Proofs.Ytpcnbaddkblbhaa

