import Derived.Test.YtfnjeldpfilplaaGreatDoorPart11
import Derived.Test.YtfnjeldpfilplaaGreatDoorFacts3
import Derived.Test.YtfnjeldpfilplaaGreatDoorPart12
/- For every program and every number the Go function PlanShape of package simulcastlaw49 returns true, and its arguments read afterwards as they read before: the stores of a plan are declared, distinct and in increasing order, a plan is pure and has no calls exactly if it has no stores, and turning the operations turns the plans. Condition: the tables lexer.keywords, array.powers, plan.words, strconv.uint64pow10 and the two de Bruijn tables of math/bits read at the start as the program text lays them (tied by the card); an input that leads back to itself is not covered. -/
namespace Go.Proofs.YtfnjeldpfilplaaGreatDoor
open Go.Vc Sim Go.ChangeShapes Go.WideShapes Go.RowKit
set_option maxRecDepth 100000
theorem pshapec_lifted (os : Os) (started : os.Started) (H : Type) (enc : TypeId × Value → H) :
    ReturnsInHanded {} Tryz.checked os 5 .any (fun w args => (Rows.planShapeSpec.pre enc Tryz.prog Tryz.f5 [] false w args ∧ laidMetH Tryz.prog lKw w) ∧ sizedMet enc Tryz.prog Tryz.f5 (OpenSpec.ofChange Rows.planShapeSpec) false w args)
      (Rows.planShapeSpec.post enc Tryz.prog Tryz.f5 false true false false) := by
  refine returnsInHanded_of_change_and (C := Tryz.checked) (X := (fun w (_ : Array Value) => laidMetH Tryz.prog lKw w)) (fun _ _ _ hh h => h.of_heap hh) cOwn started (by kernel_rfl) Tryz.func5
    (ChangeSpec.witness_shaped (enc := enc) (C := Tryz.checked) (os := os) (X := (fun w (_ : Array Value) => laidMetH Tryz.prog lKw w)) false (World.doorLaid Tryz.prog 400 os) #[.agg #[.slice none 0 0, .slice none 0 0], .int .u8 0] 8 rfl (World.shaped_of_RefB (by kernel_rfl) (by kernel_rfl)) (by kernel_rfl) (by kernel_rfl) (by kernel_rfl) (door_met os _)) ?_
  intro W base args ds gs before hval0 hW _ hwt hL _
  have hval : ∀ (j : Nat) t v, Tryz.f5.params[j]? = some t → args[j]? = some v → Value.okWide Tryz.prog W .any base t v := hval0
  have hW' := hW
  obtain ⟨p, q, hA0, hV, rfl, hfz, hnd⟩ := hW
  obtain ⟨rfl, rfl⟩ := trodVars_none hV
  have hA : DataW.TrodAll enc Tryz.prog W 0 (fun _ => true) true Tryz.f5.params.toList args.toList ds p := hA0
  have hwt : (DataW.weightsEach Tryz.prog (Tryz.f5.params.toList ++ []) (ds ++ [])).all (· ≤ reachBytes) = true := hwt
  rw [Tryz.params5] at hA hval hwt
  obtain ⟨v0, v1, d0, d1, p0', p1, rfl, rfl, rfl, h0, h1⟩ := trodAll_two hA
  have hwa : ∀ q ∈ d0.weights Tryz.prog 33 ++ (d1.weights Tryz.prog 5 ++ []), q ≤ reachBytes := fun q hq => by
    have := List.all_eq_true.1 hwt q hq
    simpa using this
  obtain ⟨p, hp, hz⟩ := in_prog (hval 0 _ _ rfl rfl) h0 (fun q hq => hwa q (List.mem_append_left _ hq))
  obtain ⟨y, rfl, hy⟩ := in_u8 Tryz.underlying5 (hval 1 _ _ rfl rfl) h1
  obtain ⟨k8, rfl⟩ := Int.eq_ofNat_of_zero_le hy.1
  have hy2 := hy.2
  refine (calls_of (planShape_spec W (glob_ok hL).1 (glob_ok hL).2.1 (glob_ok hL).2.2 _ p k8 hp hz (by omega))).mono fun e W' ⟨he, hbl⟩ => ⟨.bool true, he, ?_⟩
  exact law_post (tb := 4) cLaid (by
    rw [Tryz.params5]
    intro t ht
    have hall : (#[33, 5].toList.all fun t => Tryz.prog.readableRec t && decide (t < Tryz.prog.types.size)) = true := by kernel_rfl
    have h := List.all_eq_true.1 hall t ht
    rw [Bool.and_eq_true, decide_eq_true_eq] at h
    exact h) rfl (by kernel_rfl) Tryz.underlying4 ⟨rfl, rfl, rfl⟩ hW' hbl

theorem pshapec_holds : Rows.PlanShapeSaid :=
  OpenClaim.holds_of_wide 5 Tryz.f5 rfl rfl rfl rfl rfl rfl rfl ⟨rfl, rfl, rfl, rfl, rfl⟩ rfl rfl rfl rfl rfl (by kernel_rfl) Tryz.func5 pshape_facts
    (of_decide_eq_true (by kernel_rfl)) (by unfold Func.isWrapper; first | (rw [if_pos (by decide +kernel)]; kernel_rfl) | (rw [if_neg (by decide +kernel)]; exact ⟨rfl, rfl⟩))
    (fun os started H enc _ => pshapec_lifted os started H enc)

theorem pshapec_card : Rows.PlanShapeCardSaid :=
  Claim7.holds_tied_plain_at .later [] [.data, .data, .data, .widerDeep, .data, .data] true (true, "c99f64fda476f0d578cc875e930de8a84c8658a89d6d927ad7e95f4f75a691b1") false
    pshapec_holds (fun _ h => by cases h) (by kernel_rfl) (fun _ h => by cases h) planShape_row_tie rfl ⟨rfl, rfl⟩ (by kernel_rfl) rfl
    (fun f fn hf hfn => by
      obtain rfl : f = 5 := Option.some.inj ((show Tryz.prog.funcNamed Rows.planShapeRow.func = some 5 by kernel_rfl).symm.trans hf) |>.symm
      obtain rfl : fn = Tryz.f5 := (Option.some.inj (Tryz.func5.symm.trans hfn)).symm
      exact ⟨pshape_looks, fun j t ht => by
        rw [Tryz.params5] at ht
        have hm : t ∈ [33, 5] := by simpa using Array.mem_of_getElem? ht
        have hall : ([33, 5].all fun u => !Tryz.prog.wantsStandIn u) = true := by kernel_rfl
        exact (show Tryz.prog.wantsStandIn t = false by simpa using List.all_eq_true.1 hall t hm)⟩)
    (by first | exact pshape_goes | kernel_rfl)
#print axioms pshapec_card
end Go.Proofs.YtfnjeldpfilplaaGreatDoor

