import Derived.Test.YtgdhcgnmffgkiaaGreatDoorPart1
import Derived.Test.YtgdhcgnmffgkiaaGreatDoorFacts7
import Derived.Test.YtgdhcgnmffgkiaaGreatDoorPart5
/- For every kind and every name the Go function CatalogLists of package simulcastlaw42 returns true, and its arguments read afterwards as they read before: the kinds, their names, the methods of a kind and the method of a name that the catalog tells are those of the reference, whose table of words is read letter by letter, and the chapter's example answers as it should. Condition: the table array.powers reads at the start as the program text lays it (tied by the card). -/
namespace Go.Proofs.YtgdhcgnmffgkiaaGreatDoor
open Go.Vc Sim Go.ChangeShapes Go.WideShapes Go.RowKit
set_option maxRecDepth 100000
theorem clistsc_lifted (os : Os) (started : os.Started) (H : Type) (enc : TypeId × Value → H) :
    ReturnsInHanded {} Tryz.checked os 7 .any (fun w args => (Rows.catalogListsSpec.pre enc Tryz.prog Tryz.f7 [] false w args ∧ laidMetH Tryz.prog lPow w) ∧ sizedMet enc Tryz.prog Tryz.f7 (OpenSpec.ofChange Rows.catalogListsSpec) false w args)
      (Rows.catalogListsSpec.post enc Tryz.prog Tryz.f7 false true false false) := by
  refine returnsInHanded_of_change_and (C := Tryz.checked) (X := (fun w (_ : Array Value) => laidMetH Tryz.prog lPow w)) (fun _ _ _ hh h => h.of_heap hh) cOwn started (by kernel_rfl) Tryz.func7
    (ChangeSpec.witness_shaped (enc := enc) (C := Tryz.checked) (os := os) (X := (fun w (_ : Array Value) => laidMetH Tryz.prog lPow w)) false (World.doorLaid Tryz.prog 400 os) #[.int .i64 0, .string ByteArray.empty] 8 rfl (World.shaped_of_RefB (by kernel_rfl) (by kernel_rfl)) (by kernel_rfl) (by kernel_rfl) (by kernel_rfl) (door_met os _)) ?_
  intro W base args ds gs before hval0 hW _ _ _ _
  have hval : ∀ (j : Nat) t v, Tryz.f7.params[j]? = some t → args[j]? = some v → Value.okWide Tryz.prog W .any base t v := hval0
  have hW' := hW
  obtain ⟨p, q, hA0, hV, rfl, hfz, hnd⟩ := hW
  obtain ⟨rfl, rfl⟩ := trodVars_none hV
  have hA : DataW.TrodAll enc Tryz.prog W 0 (fun _ => true) true Tryz.f7.params.toList args.toList ds p := hA0
  rw [Tryz.params7] at hA hval
  obtain ⟨v0, v1, d0, d1, p0', p1, rfl, rfl, rfl, _, _⟩ := trodAll_two hA
  obtain ⟨x, rfl⟩ := okWide_int Tryz.underlying3 (hval 0 _ _ rfl rfl)
  obtain ⟨s, rfl⟩ := okWide_string Tryz.underlying9 (hval 1 _ _ rfl rfl)
  refine (calls_of (catalogLists_spec W x s)).mono fun e W' ⟨he, hbl⟩ => ⟨.bool true, he, ?_⟩
  exact law_post (tb := 4) cLaid (by
    rw [Tryz.params7]
    intro t ht
    have hall : (#[3, 9].toList.all fun t => Tryz.prog.readableRec t && decide (t < Tryz.prog.types.size)) = true := by kernel_rfl
    have h := List.all_eq_true.1 hall t ht
    rw [Bool.and_eq_true, decide_eq_true_eq] at h
    exact h) rfl (by kernel_rfl) Tryz.underlying4 ⟨rfl, rfl, rfl⟩ hW' hbl

theorem clistsc_holds : Rows.CatalogListsSaid :=
  OpenClaim.holds_of_wide 7 Tryz.f7 rfl rfl rfl rfl rfl rfl rfl ⟨rfl, rfl, rfl, rfl, rfl⟩ rfl rfl rfl rfl rfl (by kernel_rfl) Tryz.func7 clists_facts
    (of_decide_eq_true (by kernel_rfl)) (by unfold Func.isWrapper; first | (rw [if_pos (by decide +kernel)]; kernel_rfl) | (rw [if_neg (by decide +kernel)]; exact ⟨rfl, rfl⟩))
    (fun os started H enc _ => clistsc_lifted os started H enc)

theorem clistsc_card : Rows.CatalogListsCardSaid :=
  Claim7.holds_tied_plain_at .later [] [.data] true (true, "e82b0f95ab25df48c8a246f43b1ba122a3b83a13a8e90fa58a70675018bab0c4") false
    clistsc_holds (fun _ h => by cases h) (by kernel_rfl) (fun _ h => by cases h) catalogLists_row_tie rfl ⟨rfl, rfl⟩ (by kernel_rfl) rfl
    (fun f fn hf hfn => by
      obtain rfl : f = 7 := Option.some.inj ((show Tryz.prog.funcNamed Rows.catalogListsRow.func = some 7 by kernel_rfl).symm.trans hf) |>.symm
      obtain rfl : fn = Tryz.f7 := (Option.some.inj (Tryz.func7.symm.trans hfn)).symm
      exact ⟨clists_looks, fun j t ht => by
        rw [Tryz.params7] at ht
        have hm : t ∈ [3, 9] := by simpa using Array.mem_of_getElem? ht
        have hall : ([3, 9].all fun u => !Tryz.prog.wantsStandIn u) = true := by kernel_rfl
        exact (show Tryz.prog.wantsStandIn t = false by simpa using List.all_eq_true.1 hall t hm)⟩)
    (by first | exact clists_goes | kernel_rfl)
#print axioms clistsc_card
end Go.Proofs.YtgdhcgnmffgkiaaGreatDoor

