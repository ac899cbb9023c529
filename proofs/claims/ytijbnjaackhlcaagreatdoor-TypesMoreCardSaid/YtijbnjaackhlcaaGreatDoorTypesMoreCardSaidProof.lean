import Derived.Test.YtijbnjaackhlcaaGreatDoorPart1
import Derived.Test.YtijbnjaackhlcaaGreatDoorFacts4
import Derived.Test.YtijbnjaackhlcaaGreatDoorPart12
/- For every expression and all variables and stores, and more of them, the Go function TypesMore of package simulcastlaw46 returns true, and its arguments read afterwards as they read before: an expression that has a type keeps it when variables and stores with new names are added, all of its parts have a type, and an expression without a type is answered with none. Condition: the tables lexer.keywords and array.powers read at the start as the program text lays them (tied by the card); an input that leads back to itself is not covered. -/
namespace Go.Proofs.YtijbnjaackhlcaaGreatDoor
open Go.Vc Sim Go.ChangeShapes Go.WideShapes Go.RowKit
set_option maxRecDepth 100000
theorem tmorec_lifted (os : Os) (started : os.Started) (H : Type) (enc : TypeId × Value → H) :
    ReturnsInHanded {} Tryz.checked os 8 .any (fun w args => (Rows.typesMoreSpec.pre enc Tryz.prog Tryz.f8 [] false w args ∧ laidMetH Tryz.prog lKw w) ∧ sizedMet enc Tryz.prog Tryz.f8 (OpenSpec.ofChange Rows.typesMoreSpec) false w args)
      (Rows.typesMoreSpec.post enc Tryz.prog Tryz.f8 false true false false) := by
  refine returnsInHanded_of_change_and (C := Tryz.checked) (X := (fun w (_ : Array Value) => laidMetH Tryz.prog lKw w)) (fun _ _ _ hh h => h.of_heap hh) cOwn started (by kernel_rfl) Tryz.func8
    (ChangeSpec.witness_shaped (enc := enc) (C := Tryz.checked) (os := os) (X := (fun w (_ : Array Value) => laidMetH Tryz.prog lKw w)) false (World.doorLaid Tryz.prog 400 os) #[.agg #[.int .i64 0, .int .i64 0, .string ByteArray.empty, .string ByteArray.empty, .slice none 0 0, .slice none 0 0], .agg #[.slice none 0 0, .slice none 0 0], .agg #[.slice none 0 0, .slice none 0 0]] 8 rfl (World.shaped_of_RefB (by kernel_rfl) (by kernel_rfl)) (by kernel_rfl) (by kernel_rfl) (by kernel_rfl) (door_met os _)) ?_
  intro W base args ds gs before hval0 hW _ hwt hL _
  have hval : ∀ (j : Nat) t v, Tryz.f8.params[j]? = some t → args[j]? = some v → Value.okWide Tryz.prog W .any base t v := hval0
  have hW' := hW
  obtain ⟨p, q, hA0, hV, rfl, hfz, hnd⟩ := hW
  obtain ⟨rfl, rfl⟩ := trodVars_none hV
  have hA : DataW.TrodAll enc Tryz.prog W 0 (fun _ => true) true Tryz.f8.params.toList args.toList ds p := hA0
  have hwt : (DataW.weightsEach Tryz.prog (Tryz.f8.params.toList ++ []) (ds ++ [])).all (· ≤ reachBytes) = true := hwt
  rw [Tryz.params8] at hA hval hwt
  obtain ⟨v0, v1, v2, d0, d1, d2, p0', p1, p2, rfl, rfl, rfl, h0, h1, h2⟩ := trodAll_three hA
  have hwa : ∀ q ∈ d0.weights Tryz.prog 41 ++ (d1.weights Tryz.prog 48 ++ (d2.weights Tryz.prog 48 ++ [])), q ≤ reachBytes := fun q hq => by
    have := List.all_eq_true.1 hwt q hq
    simpa using this
  obtain ⟨e, va, vo, rfl, ha, ho, hz⟩ := in_expr (hval 0 _ _ rfl rfl) h0 (fun q hq => hwa q (List.mem_append_left _ hq))
  obtain ⟨pa, pb, vs, st, rfl, r1, r2, b1, b2⟩ := in_placeV (hval 1 _ _ rfl rfl) h1 (fun q hq => hwa q (List.mem_append_right _ (List.mem_append_left _ hq)))
  obtain ⟨qa, qb, ws, ut, rfl, g1, g2, d1, d2⟩ := in_placeV (hval 2 _ _ rfl rfl) h2 (fun q hq => hwa q (List.mem_append_right _ (List.mem_append_right _ (List.mem_append_left _ hq))))
  refine (calls_of (typesMoreLaw_spec W (kw_ok hL) e va vo pa pb qa qb vs ws st ut ha ho hz r1 r2 b1 b2 g1 g2 d1 d2)).mono fun e W' ⟨he, hbl⟩ => ⟨.bool true, he, ?_⟩
  exact law_post (tb := 4) cLaid (by
    rw [Tryz.params8]
    intro t ht
    have hall : (#[41, 48, 48].toList.all fun t => Tryz.prog.readableRec t && decide (t < Tryz.prog.types.size)) = true := by kernel_rfl
    have h := List.all_eq_true.1 hall t ht
    rw [Bool.and_eq_true, decide_eq_true_eq] at h
    exact h) rfl (by kernel_rfl) Tryz.underlying4 ⟨rfl, rfl, rfl⟩ hW' hbl

theorem tmorec_holds : Rows.TypesMoreSaid :=
  OpenClaim.holds_of_wide 8 Tryz.f8 rfl rfl rfl rfl rfl rfl rfl ⟨rfl, rfl, rfl, rfl, rfl⟩ rfl rfl rfl rfl rfl (by kernel_rfl) Tryz.func8 tmore_facts
    (of_decide_eq_true (by kernel_rfl)) (by unfold Func.isWrapper; first | (rw [if_pos (by decide +kernel)]; kernel_rfl) | (rw [if_neg (by decide +kernel)]; exact ⟨rfl, rfl⟩))
    (fun os started H enc _ => tmorec_lifted os started H enc)

theorem tmorec_card : Rows.TypesMoreCardSaid :=
  Claim7.holds_tied_plain_at .later [] [.widerDeep, .data] true (true, "dc24fc034eff993e78136b06fef583f5bfa2b96cb2b8cb286301c254189c761e") false
    tmorec_holds (fun _ h => by cases h) (by kernel_rfl) (fun _ h => by cases h) typesMore_row_tie rfl ⟨rfl, rfl⟩ (by kernel_rfl) rfl
    (fun f fn hf hfn => by
      obtain rfl : f = 8 := Option.some.inj ((show Tryz.prog.funcNamed Rows.typesMoreRow.func = some 8 by kernel_rfl).symm.trans hf) |>.symm
      obtain rfl : fn = Tryz.f8 := (Option.some.inj (Tryz.func8.symm.trans hfn)).symm
      exact ⟨tmore_looks, fun j t ht => by
        rw [Tryz.params8] at ht
        have hm : t ∈ [41, 48, 48] := by simpa using Array.mem_of_getElem? ht
        have hall : ([41, 48, 48].all fun u => !Tryz.prog.wantsStandIn u) = true := by kernel_rfl
        exact (show Tryz.prog.wantsStandIn t = false by simpa using List.all_eq_true.1 hall t hm)⟩)
    (by first | exact tmore_goes | kernel_rfl)
#print axioms tmorec_card
end Go.Proofs.YtijbnjaackhlcaaGreatDoor

