import Derived.Test.YtjapaghhgpaldaaGreatDoorPart6
import Derived.Test.YtjapaghhgpaldaaGreatDoorFacts2
import Derived.Test.YtjapaghhgpaldaaGreatDoorPart7
/- The law EffectsJoin of package simulcastlaw47 returns true for every two effects and every number and leaves its arguments as they were: Join, Times, Pure and Disjoint agree with the reference. -/
namespace Go.Proofs.YtjapaghhgpaldaaGreatDoor
open Go.Vc Sim Go.ChangeShapes Go.WideShapes Go.RowKit
set_option maxRecDepth 100000
theorem in_ef1 {H : Type} {enc : TypeId × Value → H} {w : World} {base : Nat} {spare : Nat → Bool} {held : Bool} {r : Reach} {b0 : Nat} {v : Value} {d : DataW H} {ps : List MemPlace}
    (hval : Value.okWide Tryz.prog w r b0 30 v) (h : DataW.Trod enc Tryz.prog w base spare held 30 v d ps) (hw : ∀ q ∈ d.weights Tryz.prog 30, q ≤ reachBytes) :
    ∃ (p : P6) (a : Ef), v = efV p a ∧ RdEfV w [] (efV p a) a ∧ a.sm 1125899906842624 := by
  obtain ⟨fuel, hf⟩ := h
  simp only [Value.okWide, Tryz.underlying30] at hval
  obtain ⟨cs, rfl, _⟩ := hval
  have hf : DataW.trod enc Tryz.prog w base spare held fuel 30 cs.toList = some (d, ps) := hf
  obtain ⟨p, a, ea, ra, sa, _⟩ := in_ef hf hw
  refine ⟨p, a, ?_, ra, sa⟩
  rw [efV, ← ea]
theorem joinlaw_lifted (os : Os) (started : os.Started) (H : Type) (enc : TypeId × Value → H) :
    ReturnsInHanded {} Tryz.checked os 6 .any (fun w args => (Rows.effectsJoinSpec.pre enc Tryz.prog Tryz.f6 [] false w args ∧ laidMetH Tryz.prog lKw w) ∧ sizedMet enc Tryz.prog Tryz.f6 (OpenSpec.ofChange Rows.effectsJoinSpec) false w args)
      (Rows.effectsJoinSpec.post enc Tryz.prog Tryz.f6 false true false false) := by
  refine returnsInHanded_of_change_and (C := Tryz.checked) (X := (fun w (_ : Array Value) => laidMetH Tryz.prog lKw w)) (fun _ _ _ hh h => h.of_heap hh) cOwn started (by kernel_rfl) Tryz.func6
    (ChangeSpec.witness_shaped (enc := enc) (C := Tryz.checked) (os := os) (X := (fun w (_ : Array Value) => laidMetH Tryz.prog lKw w)) false (World.doorLaid Tryz.prog 400 os) #[.agg #[.slice none 0 0, .slice none 0 0, .slice none 0 0, .int .i64 0], .agg #[.slice none 0 0, .slice none 0 0, .slice none 0 0, .int .i64 0], .int .i64 0] 8 rfl (World.shaped_of_RefB (by kernel_rfl) (by kernel_rfl)) (by kernel_rfl) (by kernel_rfl) (by kernel_rfl) (door_met os _)) ?_
  intro W base args ds gs before hval0 hW _ hwt hL _
  have hval : ∀ (j : Nat) t v, Tryz.f6.params[j]? = some t → args[j]? = some v → Value.okWide Tryz.prog W .any base t v := hval0
  have hW' := hW
  obtain ⟨p, q, hA0, hV, rfl, hfz, hnd⟩ := hW
  obtain ⟨rfl, rfl⟩ := trodVars_none hV
  have hA : DataW.TrodAll enc Tryz.prog W 0 (fun _ => true) true Tryz.f6.params.toList args.toList ds p := hA0
  have hwt : (DataW.weightsEach Tryz.prog (Tryz.f6.params.toList ++ []) (ds ++ [])).all (· ≤ reachBytes) = true := hwt
  rw [Tryz.params6] at hA hval hwt
  obtain ⟨v0, v1, v2, d0, d1, d2, p0', p1, p2, rfl, rfl, rfl, h0, h1, h2⟩ := trodAll_three hA
  have hwa : ∀ q ∈ d0.weights Tryz.prog 30 ++ (d1.weights Tryz.prog 30 ++ (d2.weights Tryz.prog 2 ++ [])), q ≤ reachBytes := fun q hq => by
    have := List.all_eq_true.1 hwt q hq
    simpa using this
  obtain ⟨p, a, rfl, ra, sa⟩ := in_ef1 (hval 0 _ _ rfl rfl) h0 (fun q hq => hwa q (List.mem_append_left _ hq))
  obtain ⟨q, b, rfl, rb, sb⟩ := in_ef1 (hval 1 _ _ rfl rfl) h1 (fun q hq => hwa q (List.mem_append_right _ (List.mem_append_left _ hq)))
  obtain ⟨n, rfl, hn⟩ := in_i64 Tryz.underlying2 (hval 2 _ _ rfl rfl) h2
  refine (calls_of (joinlaw_spec W (kw_ok hL) p q a b n ra rb sa sb hn.2)).mono fun e W' ⟨he, hbl⟩ => ⟨.bool true, he, ?_⟩
  exact law_post (tb := 4) cLaid (by
    rw [Tryz.params6]
    intro t ht
    have hall : (#[30, 30, 2].toList.all fun t => Tryz.prog.readableRec t && decide (t < Tryz.prog.types.size)) = true := by kernel_rfl
    have h := List.all_eq_true.1 hall t ht
    rw [Bool.and_eq_true, decide_eq_true_eq] at h
    exact h) rfl (by kernel_rfl) Tryz.underlying4 ⟨rfl, rfl, rfl⟩ hW' hbl

theorem joinlaw_holds : Rows.EffectsJoinSaid :=
  OpenClaim.holds_of_wide 6 Tryz.f6 rfl rfl rfl rfl rfl rfl rfl ⟨rfl, rfl, rfl, rfl, rfl⟩ rfl rfl rfl rfl rfl (by kernel_rfl) Tryz.func6 joinlaw_facts
    (of_decide_eq_true (by kernel_rfl)) (by unfold Func.isWrapper; first | (rw [if_pos (by decide +kernel)]; kernel_rfl) | (rw [if_neg (by decide +kernel)]; exact ⟨rfl, rfl⟩))
    (fun os started H enc _ => joinlaw_lifted os started H enc)

theorem joinlaw_card : Rows.EffectsJoinCardSaid :=
  Claim7.holds_tied_plain_at .later [] [.widerDeep, .data] true (true, "d65b15a91b9685c2ba24c3902ea80b89174cc3c41e5e6e8a46a97760f89db51b") false
    joinlaw_holds (fun _ h => by cases h) (by kernel_rfl) (fun _ h => by cases h) effectsJoin_row_tie rfl ⟨rfl, rfl⟩ (by kernel_rfl) rfl
    (fun f fn hf hfn => by
      obtain rfl : f = 6 := Option.some.inj ((show Tryz.prog.funcNamed Rows.effectsJoinRow.func = some 6 by kernel_rfl).symm.trans hf) |>.symm
      obtain rfl : fn = Tryz.f6 := (Option.some.inj (Tryz.func6.symm.trans hfn)).symm
      exact ⟨joinlaw_looks, fun j t ht => by
        rw [Tryz.params6] at ht
        have hm : t ∈ [30, 30, 2] := by simpa using Array.mem_of_getElem? ht
        have hall : ([30, 30, 2].all fun u => !Tryz.prog.wantsStandIn u) = true := by kernel_rfl
        exact (show Tryz.prog.wantsStandIn t = false by simpa using List.all_eq_true.1 hall t hm)⟩)
    (by kernel_rfl)
#print axioms joinlaw_card
end Go.Proofs.YtjapaghhgpaldaaGreatDoor

