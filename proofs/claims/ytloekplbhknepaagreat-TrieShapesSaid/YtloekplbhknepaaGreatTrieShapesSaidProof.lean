import Derived.Test.YtloekplbhknepaaGreatPart5
import Derived.Test.YtloekplbhknepaaGreatPart6
/- For every list of calls, every turn and every list of other keys the Go function TrieShapes of package simulcastlaw36 returns true, and its arguments read afterwards as they read before: inserting the same keys in another order, with other keys inserted and removed in between, yields the same contents, the same branches and the same number of nodes. -/
namespace Go.Proofs.YtloekplbhknepaaGreat
open Go.Vc Sim Go.ChangeShapes Go.WideShapes Go.RowKit
set_option maxRecDepth 100000
theorem trieShapes_lifted (os : Os) (started : os.Started) (H : Type) (enc : TypeId × Value → H) :
    ReturnsInHanded {} Tryz.checked os 7 .any (Rows.trieShapesSpec.pre6 enc Tryz.prog Tryz.f7 [] false) (Rows.trieShapesSpec.post enc Tryz.prog Tryz.f7 false true false false) := by
  refine returnsInHanded_of_change (C := Tryz.checked) cOwn started (by kernel_rfl) Tryz.func7
    (ChangeSpec.witness6 (enc := enc) (C := Tryz.checked) false ⟨#[], #[.slice none 0 0, .int .u8 0, .slice none 0 0], []⟩ 8 (by kernel_rfl) (by kernel_rfl) (by kernel_rfl) (by kernel_rfl)) ?_
  intro W base args ds gs before hval0 hW _ _
  have hval : ∀ (j : Nat) t v, Tryz.f7.params[j]? = some t → args[j]? = some v → Value.okWide Tryz.prog W .any base t v := hval0
  have hW' := hW
  obtain ⟨p, q, hA0, hV, rfl, hfz, hnd⟩ := hW
  obtain ⟨rfl, rfl⟩ := trodVars_none hV
  have hA : DataW.TrodAll enc Tryz.prog W 0 (fun _ => true) true Tryz.f7.params.toList args.toList ds p := hA0
  rw [Tryz.params7] at hA hval
  obtain ⟨v0, v1, v2, d0, d1, d2, p0, p1, p2, rfl, rfl, rfl, h0, h1, h2⟩ := trodAll_three hA
  obtain ⟨l, hl, hok⟩ := in_calls (hval 0 _ _ rfl rfl) h0
  obtain ⟨m, rfl, hm⟩ := in_u8 Tryz.underlying5 (hval 1 _ _ rfl rfl) h1
  obtain ⟨os, hos, _⟩ := in_ints Tryz.underlying62 Tryz.underlying2 (by kernel_rfl) (hval 2 _ _ rfl rfl) h2
  refine (calls_of (shapes_spec W v0 l hl hok m hm v2 os hos)).mono fun e W' ⟨he, hbl⟩ => ⟨.bool true, he, ?_⟩
  exact law_post (tb := 4) cLaid (by
    rw [Tryz.params7]
    intro t ht
    have hall : (#[22, 5, 62].toList.all fun t => Tryz.prog.readableRec t && decide (t < Tryz.prog.types.size)) = true := by kernel_rfl
    have h := List.all_eq_true.1 hall t ht
    rw [Bool.and_eq_true, decide_eq_true_eq] at h
    exact h) rfl (by kernel_rfl) Tryz.underlying4 ⟨rfl, rfl, rfl⟩ hW' hbl

theorem trieShapes_holds : Rows.TrieShapesSaid :=
  OpenClaim.holds_of_wide 7 Tryz.f7 rfl rfl rfl rfl rfl rfl rfl ⟨rfl, rfl, rfl, rfl, rfl⟩ rfl rfl rfl rfl rfl (by kernel_rfl) Tryz.func7 (by kernel_rfl)
    (of_decide_eq_true (by kernel_rfl)) (by unfold Func.isWrapper; first | (rw [if_pos (by decide +kernel)]; kernel_rfl) | (rw [if_neg (by decide +kernel)]; exact ⟨rfl, rfl⟩))
    (fun os started H enc _ => trieShapes_lifted os started H enc)
#print axioms trieShapes_holds
end Go.Proofs.YtloekplbhknepaaGreat

