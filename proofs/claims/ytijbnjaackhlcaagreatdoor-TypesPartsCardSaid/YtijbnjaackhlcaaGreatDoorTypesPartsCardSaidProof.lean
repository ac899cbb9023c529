import Derived.Test.YtijbnjaackhlcaaGreatDoorPart1
import Derived.Test.YtijbnjaackhlcaaGreatDoorFacts6
import Derived.Test.YtijbnjaackhlcaaGreatDoorPart13
import Derived.Test.YtijbnjaackhlcaaGreatDoorPart11
/- For every program and all numbers the Go function TypesParts of package simulcastlaw46 returns true, and its arguments read afterwards as they read before: a well-typed program stays well-typed, with the same variables for every operation, when an operation is taken out or the operations are turned, and the variables of the operation that was taken out are answered with the error for a missing one. Condition: the tables lexer.keywords and array.powers read at the start as the program text lays them (tied by the card); an input that leads back to itself is not covered. -/
namespace Go.Proofs.YtijbnjaackhlcaaGreatDoor
open Go.Vc Sim Go.ChangeShapes Go.WideShapes Go.RowKit
set_option maxRecDepth 100000
theorem tpartsc_lifted (os : Os) (started : os.Started) (H : Type) (enc : TypeId × Value → H) :
    ReturnsInHanded {} Tryz.checked os 3 .any (fun w args => (Rows.typesPartsSpec.pre enc Tryz.prog Tryz.f3 [] false w args ∧ laidMetH Tryz.prog lKw w) ∧ sizedMet enc Tryz.prog Tryz.f3 (OpenSpec.ofChange Rows.typesPartsSpec) false w args)
      (Rows.typesPartsSpec.post enc Tryz.prog Tryz.f3 false true false false) := by
  refine returnsInHanded_of_change_and (C := Tryz.checked) (X := (fun w (_ : Array Value) => laidMetH Tryz.prog lKw w)) (fun _ _ _ hh h => h.of_heap hh) cOwn started (by kernel_rfl) Tryz.func3
    (ChangeSpec.witness_shaped (enc := enc) (C := Tryz.checked) (os := os) (X := (fun w (_ : Array Value) => laidMetH Tryz.prog lKw w)) false (World.doorLaid Tryz.prog 400 os) #[.agg #[.slice none 0 0, .slice none 0 0], .int .u8 0, .int .u8 0] 8 rfl (World.shaped_of_RefB (by kernel_rfl) (by kernel_rfl)) (by kernel_rfl) (by kernel_rfl) (by kernel_rfl) (door_met os _)) ?_
  intro W base args ds gs before hval0 hW _ hwt hL _
  have hval : ∀ (j : Nat) t v, Tryz.f3.params[j]? = some t → args[j]? = some v → Value.okWide Tryz.prog W .any base t v := hval0
  have hW' := hW
  obtain ⟨p, q, hA0, hV, rfl, hfz, hnd⟩ := hW
  obtain ⟨rfl, rfl⟩ := trodVars_none hV
  have hA : DataW.TrodAll enc Tryz.prog W 0 (fun _ => true) true Tryz.f3.params.toList args.toList ds p := hA0
  have hwt : (DataW.weightsEach Tryz.prog (Tryz.f3.params.toList ++ []) (ds ++ [])).all (· ≤ reachBytes) = true := hwt
  rw [Tryz.params3] at hA hval hwt
  obtain ⟨v0, v1, v2, d0, d1, d2, p0', p1, p2, rfl, rfl, rfl, h0, h1, h2⟩ := trodAll_three hA
  have hwa : ∀ q ∈ d0.weights Tryz.prog 25 ++ (d1.weights Tryz.prog 5 ++ (d2.weights Tryz.prog 5 ++ [])), q ≤ reachBytes := fun q hq => by
    have := List.all_eq_true.1 hwt q hq
    simpa using this
  obtain ⟨p, hp, hz⟩ := in_prog (hval 0 _ _ rfl rfl) h0 (fun q hq => hwa q (List.mem_append_left _ hq))
  obtain ⟨x, rfl, hx⟩ := in_u8 Tryz.underlying5 (hval 1 _ _ rfl rfl) h1
  obtain ⟨h8, rfl⟩ := Int.eq_ofNat_of_zero_le hx.1
  have hx2 := hx.2
  obtain ⟨y, rfl, hy⟩ := in_u8 Tryz.underlying5 (hval 2 _ _ rfl rfl) h2
  obtain ⟨k8, rfl⟩ := Int.eq_ofNat_of_zero_le hy.1
  have hy2 := hy.2
  refine (calls_of (typesPartsLaw_spec W (kw_ok hL) _ p h8 k8 hp hz (by omega) (by omega))).mono fun e W' ⟨he, hbl⟩ => ⟨.bool true, he, ?_⟩
  exact law_post (tb := 4) cLaid (by
    rw [Tryz.params3]
    intro t ht
    have hall : (#[25, 5, 5].toList.all fun t => Tryz.prog.readableRec t && decide (t < Tryz.prog.types.size)) = true := by kernel_rfl
    have h := List.all_eq_true.1 hall t ht
    rw [Bool.and_eq_true, decide_eq_true_eq] at h
    exact h) rfl (by kernel_rfl) Tryz.underlying4 ⟨rfl, rfl, rfl⟩ hW' hbl

theorem tpartsc_holds : Rows.TypesPartsSaid :=
  OpenClaim.holds_of_wide 3 Tryz.f3 rfl rfl rfl rfl rfl rfl rfl ⟨rfl, rfl, rfl, rfl, rfl⟩ rfl rfl rfl rfl rfl (by kernel_rfl) Tryz.func3 tparts_facts
    (of_decide_eq_true (by kernel_rfl)) (by unfold Func.isWrapper; first | (rw [if_pos (by decide +kernel)]; kernel_rfl) | (rw [if_neg (by decide +kernel)]; exact ⟨rfl, rfl⟩))
    (fun os started H enc _ => tpartsc_lifted os started H enc)

theorem tpartsc_card : Rows.TypesPartsCardSaid :=
  Claim7.holds_tied_plain_at .later [] [.widerDeep, .data] true (true, "dc24fc034eff993e78136b06fef583f5bfa2b96cb2b8cb286301c254189c761e") false
    tpartsc_holds (fun _ h => by cases h) (by kernel_rfl) (fun _ h => by cases h) typesParts_row_tie rfl ⟨rfl, rfl⟩ (by kernel_rfl) rfl
    (fun f fn hf hfn => by
      obtain rfl : f = 3 := Option.some.inj ((show Tryz.prog.funcNamed Rows.typesPartsRow.func = some 3 by kernel_rfl).symm.trans hf) |>.symm
      obtain rfl : fn = Tryz.f3 := (Option.some.inj (Tryz.func3.symm.trans hfn)).symm
      exact ⟨tparts_looks, fun j t ht => by
        rw [Tryz.params3] at ht
        have hm : t ∈ [25, 5, 5] := by simpa using Array.mem_of_getElem? ht
        have hall : ([25, 5, 5].all fun u => !Tryz.prog.wantsStandIn u) = true := by kernel_rfl
        exact (show Tryz.prog.wantsStandIn t = false by simpa using List.all_eq_true.1 hall t hm)⟩)
    (by first | exact tparts_goes | kernel_rfl)
#print axioms tpartsc_card
end Go.Proofs.YtijbnjaackhlcaaGreatDoor

