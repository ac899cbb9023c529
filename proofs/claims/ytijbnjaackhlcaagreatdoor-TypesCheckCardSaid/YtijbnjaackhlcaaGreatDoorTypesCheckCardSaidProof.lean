import Derived.Test.YtijbnjaackhlcaaGreatDoorPart1
import Derived.Test.YtijbnjaackhlcaaGreatDoorFacts1
import Derived.Test.YtijbnjaackhlcaaGreatDoorPart11
/- For every program the Go function TypesCheck of package simulcastlaw46 returns true, and its argument reads afterwards as it read before: types.Check returns the error of syntax.Check, or else the first store of an unknown kind with its error, or else the first operation that the reference finds wrong with the reference's error, or else ErrNone. Condition: the tables lexer.keywords and array.powers read at the start as the program text lays them (tied by the card); an input that leads back to itself is not covered. -/
namespace Go.Proofs.YtijbnjaackhlcaaGreatDoor
open Go.Vc Sim Go.ChangeShapes Go.WideShapes Go.RowKit
set_option maxRecDepth 100000
theorem tcheckc_lifted (os : Os) (started : os.Started) (H : Type) (enc : TypeId × Value → H) :
    ReturnsInHanded {} Tryz.checked os 6 .any (fun w args => (Rows.typesCheckSpec.pre enc Tryz.prog Tryz.f6 [] false w args ∧ laidMetH Tryz.prog lKw w) ∧ sizedMet enc Tryz.prog Tryz.f6 (OpenSpec.ofChange Rows.typesCheckSpec) false w args)
      (Rows.typesCheckSpec.post enc Tryz.prog Tryz.f6 false true false false) := by
  refine returnsInHanded_of_change_and (C := Tryz.checked) (X := (fun w (_ : Array Value) => laidMetH Tryz.prog lKw w)) (fun _ _ _ hh h => h.of_heap hh) cOwn started (by kernel_rfl) Tryz.func6
    (ChangeSpec.witness_shaped (enc := enc) (C := Tryz.checked) (os := os) (X := (fun w (_ : Array Value) => laidMetH Tryz.prog lKw w)) false (World.doorLaid Tryz.prog 400 os) #[.agg #[.slice none 0 0, .slice none 0 0]] 8 rfl (World.shaped_of_RefB (by kernel_rfl) (by kernel_rfl)) (by kernel_rfl) (by kernel_rfl) (by kernel_rfl) (door_met os _)) ?_
  intro W base args ds gs before hval0 hW _ hwt hL _
  have hval : ∀ (j : Nat) t v, Tryz.f6.params[j]? = some t → args[j]? = some v → Value.okWide Tryz.prog W .any base t v := hval0
  have hW' := hW
  obtain ⟨p, q, hA0, hV, rfl, hfz, hnd⟩ := hW
  obtain ⟨rfl, rfl⟩ := trodVars_none hV
  have hA : DataW.TrodAll enc Tryz.prog W 0 (fun _ => true) true Tryz.f6.params.toList args.toList ds p := hA0
  have hwt : (DataW.weightsEach Tryz.prog (Tryz.f6.params.toList ++ []) (ds ++ [])).all (· ≤ reachBytes) = true := hwt
  rw [Tryz.params6] at hA hval hwt
  obtain ⟨v0, d0, rfl, rfl, h0⟩ := trodAll_one hA
  have hw0 : ∀ q ∈ d0.weights Tryz.prog 25, q ≤ reachBytes := fun q hq => by
    have := List.all_eq_true.1 hwt q (by simp only [List.append_nil]; exact List.mem_append_left _ hq)
    simpa using this
  obtain ⟨p, hp, hz⟩ := in_prog (hval 0 _ _ rfl rfl) h0 hw0
  refine (calls_of (typesCheckLaw_spec W (kw_ok hL) _ p hp hz)).mono fun e W' ⟨he, hbl⟩ => ⟨.bool true, he, ?_⟩
  exact law_post (tb := 4) cLaid (by
    rw [Tryz.params6]
    intro t ht
    have hall : (#[25].toList.all fun t => Tryz.prog.readableRec t && decide (t < Tryz.prog.types.size)) = true := by kernel_rfl
    have h := List.all_eq_true.1 hall t ht
    rw [Bool.and_eq_true, decide_eq_true_eq] at h
    exact h) rfl (by kernel_rfl) Tryz.underlying4 ⟨rfl, rfl, rfl⟩ hW' hbl

theorem tcheckc_holds : Rows.TypesCheckSaid :=
  OpenClaim.holds_of_wide 6 Tryz.f6 rfl rfl rfl rfl rfl rfl rfl ⟨rfl, rfl, rfl, rfl, rfl⟩ rfl rfl rfl rfl rfl (by kernel_rfl) Tryz.func6 tcheck_facts
    (of_decide_eq_true (by kernel_rfl)) (by unfold Func.isWrapper; first | (rw [if_pos (by decide +kernel)]; kernel_rfl) | (rw [if_neg (by decide +kernel)]; exact ⟨rfl, rfl⟩))
    (fun os started H enc _ => tcheckc_lifted os started H enc)

theorem tcheckc_card : Rows.TypesCheckCardSaid :=
  Claim7.holds_tied_plain_at .later [] [.widerDeep, .data] true (true, "dc24fc034eff993e78136b06fef583f5bfa2b96cb2b8cb286301c254189c761e") false
    tcheckc_holds (fun _ h => by cases h) (by kernel_rfl) (fun _ h => by cases h) typesCheck_row_tie rfl ⟨rfl, rfl⟩ (by kernel_rfl) rfl
    (fun f fn hf hfn => by
      obtain rfl : f = 6 := Option.some.inj ((show Tryz.prog.funcNamed Rows.typesCheckRow.func = some 6 by kernel_rfl).symm.trans hf) |>.symm
      obtain rfl : fn = Tryz.f6 := (Option.some.inj (Tryz.func6.symm.trans hfn)).symm
      exact ⟨tcheck_looks, fun j t ht => by
        rw [Tryz.params6] at ht
        have hm : t ∈ [25] := by simpa using Array.mem_of_getElem? ht
        have hall : ([25].all fun u => !Tryz.prog.wantsStandIn u) = true := by kernel_rfl
        exact (show Tryz.prog.wantsStandIn t = false by simpa using List.all_eq_true.1 hall t hm)⟩)
    (by first | exact tcheck_goes | kernel_rfl)
#print axioms tcheckc_card
end Go.Proofs.YtijbnjaackhlcaaGreatDoor

