import Derived.Test.YtpcnbaddkblbhaaPart11
import Derived.Test.YtpcnbaddkblbhaaPart12
/- For every argument the Go function ForestFull of package simulcastlaw41 returns true, and its argument reads afterwards as it read before: a forest takes 64 elements and no more, and agrees with the reference. -/
/- The row of ForestFull. -/
namespace Go.Proofs.Ytpcnbaddkblbhaa
open Go.Vc Sim Go.ChangeShapes Go.WideShapes Go.RowKit
set_option maxRecDepth 100000
theorem forestFull_lifted (os : Os) (started : os.Started) (H : Type) (enc : TypeId × Value → H) :
    ReturnsInHanded {} Try.checked os 7 .any (Rows.forestFullSpec.pre6 enc Try.prog Try.f7 [] false) (Rows.forestFullSpec.post enc Try.prog Try.f7 false true false false) := by
  refine returnsInHanded_of_change (C := Try.checked) cOwn started (by kernel_rfl) Try.func7
    (ChangeSpec.witness6 (enc := enc) (C := Try.checked) false ⟨#[], #[.int .u8 0], []⟩ 8 (by kernel_rfl) (by kernel_rfl) (by kernel_rfl) (by kernel_rfl)) ?_
  intro W base args ds gs before hval0 hW _ _
  have hval : ∀ (j : Nat) t v, Try.f7.params[j]? = some t → args[j]? = some v → Value.okWide Try.prog W .any base t v := hval0
  have hW' := hW
  obtain ⟨p, q, hA0, hV, rfl, hfz, hnd⟩ := hW
  obtain ⟨rfl, rfl⟩ := trodVars_none hV
  have hA : DataW.TrodAll enc Try.prog W 0 (fun _ => true) true Try.f7.params.toList args.toList ds p := hA0
  rw [Try.params7] at hA hval
  obtain ⟨v0, d0, rfl, rfl, h0⟩ := trodAll_one hA
  obtain ⟨m, rfl, hm⟩ := in_u8 Try.underlying5 (hval 0 _ _ rfl rfl) h0
  refine (calls_of (full_spec W m hm)).mono fun e W' ⟨he, hbl⟩ => ⟨.bool true, he, ?_⟩
  exact law_post (tb := 4) cLaid (by
    rw [Try.params7]
    intro t ht
    have hall : (#[5].toList.all fun t => Try.prog.readableRec t && decide (t < Try.prog.types.size)) = true := by kernel_rfl
    have h := List.all_eq_true.1 hall t ht
    rw [Bool.and_eq_true, decide_eq_true_eq] at h
    exact h) rfl (by kernel_rfl) Try.underlying4 ⟨rfl, rfl, rfl⟩ hW' hbl

theorem forestFull_holds : Rows.ForestFullSaid :=
  OpenClaim.holds_of_wide 7 Try.f7 rfl rfl rfl rfl rfl rfl rfl ⟨rfl, rfl, rfl, rfl, rfl⟩ rfl rfl rfl rfl rfl (by kernel_rfl) Try.func7 (by kernel_rfl)
    (of_decide_eq_true (by kernel_rfl)) (by unfold Func.isWrapper; first | (rw [if_pos (by decide +kernel)]; kernel_rfl) | (rw [if_neg (by decide +kernel)]; exact ⟨rfl, rfl⟩))
    (fun os started H enc _ => forestFull_lifted os started H enc)
#print axioms forestFull_holds
end Go.Proofs.Ytpcnbaddkblbhaa

