import Derived.Test.YtloekplbhknepaaGreatPart6
/- For every key the Go function TrieInts of package simulcastlaw36 returns true, and its argument reads afterwards as it read before: the methods of Ints number a key by itself and hash it as the reference does. -/
namespace Go.Proofs.YtloekplbhknepaaGreat
open Go.Vc Sim Go.ChangeShapes Go.WideShapes Go.RowKit
set_option maxRecDepth 100000
theorem trieInts_lifted (os : Os) (started : os.Started) (H : Type) (enc : TypeId × Value → H) :
    ReturnsInHanded {} Tryz.checked os 5 .any (Rows.trieIntsSpec.pre6 enc Tryz.prog Tryz.f5 [] false) (Rows.trieIntsSpec.post enc Tryz.prog Tryz.f5 false true false false) := by
  refine returnsInHanded_of_change (C := Tryz.checked) cOwn started (by kernel_rfl) Tryz.func5
    (ChangeSpec.witness6 (enc := enc) (C := Tryz.checked) false ⟨#[], #[.int .i64 0], []⟩ 8 (by kernel_rfl) (by kernel_rfl) (by kernel_rfl) (by kernel_rfl)) ?_
  intro W base args ds gs before hval0 hW _ _
  have hval : ∀ (j : Nat) t v, Tryz.f5.params[j]? = some t → args[j]? = some v → Value.okWide Tryz.prog W .any base t v := hval0
  have hW' := hW
  obtain ⟨p, q, hA0, hV, rfl, hfz, hnd⟩ := hW
  obtain ⟨rfl, rfl⟩ := trodVars_none hV
  have hA : DataW.TrodAll enc Tryz.prog W 0 (fun _ => true) true Tryz.f5.params.toList args.toList ds p := hA0
  rw [Tryz.params5] at hA hval
  obtain ⟨v0, d0, rfl, rfl, h0⟩ := trodAll_one hA
  obtain ⟨k, rfl, hk⟩ := in_i64 Tryz.underlying2 (hval 0 _ _ rfl rfl) h0
  refine (calls_of (intsA_spec W k hk)).mono fun e W' ⟨he, hbl⟩ => ⟨.bool true, he, ?_⟩
  exact law_post (tb := 4) cLaid (by
    rw [Tryz.params5]
    intro t ht
    have hall : (#[2].toList.all fun t => Tryz.prog.readableRec t && decide (t < Tryz.prog.types.size)) = true := by kernel_rfl
    have h := List.all_eq_true.1 hall t ht
    rw [Bool.and_eq_true, decide_eq_true_eq] at h
    exact h) rfl (by kernel_rfl) Tryz.underlying4 ⟨rfl, rfl, rfl⟩ hW' hbl

theorem trieInts_holds : Rows.TrieIntsSaid :=
  OpenClaim.holds_of_wide 5 Tryz.f5 rfl rfl rfl rfl rfl rfl rfl ⟨rfl, rfl, rfl, rfl, rfl⟩ rfl rfl rfl rfl rfl (by kernel_rfl) Tryz.func5 (by kernel_rfl)
    (of_decide_eq_true (by kernel_rfl)) (by unfold Func.isWrapper; first | (rw [if_pos (by decide +kernel)]; kernel_rfl) | (rw [if_neg (by decide +kernel)]; exact ⟨rfl, rfl⟩))
    (fun os started H enc _ => trieInts_lifted os started H enc)
#print axioms trieInts_holds
end Go.Proofs.YtloekplbhknepaaGreat

