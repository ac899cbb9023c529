import Derived.Test.YtgdhcgnmffgkiaaGreatDoorPart1
import Derived.Test.YtgdhcgnmffgkiaaGreatDoorFacts9
import Derived.Test.YtgdhcgnmffgkiaaGreatDoorPart15
/- CatalogDoes: for every sequence of calls on two structures of each kind that share a pool, catalog.Do has the same results and effects as direct calls of the structures; there are no conditions. -/
namespace Go.Proofs.YtgdhcgnmffgkiaaGreatDoor
open Go.Vc Sim Go.ChangeShapes Go.WideShapes Go.RowKit
set_option maxRecDepth 100000
theorem cdoesc_lifted (os : Os) (started : os.Started) (H : Type) (enc : TypeId × Value → H) :
   ReturnsInHanded {} Tryz.checked os 3 .any (fun w args => (Rows.catalogDoesSpec.pre enc Tryz.prog Tryz.f3 [] false w args ∧ laidMetH Tryz.prog lPow w) ∧ sizedMet enc Tryz.prog Tryz.f3 (OpenSpec.ofChange Rows.catalogDoesSpec) false w args)
     (Rows.catalogDoesSpec.post enc Tryz.prog Tryz.f3 false true false false) := by
 refine returnsInHanded_of_change_and (C := Tryz.checked) (X := (fun w (_ : Array Value) => laidMetH Tryz.prog lPow w)) (fun _ _ _ hh h => h.of_heap hh) cOwn started (by kernel_rfl) Tryz.func3
   (ChangeSpec.witness_shaped (enc := enc) (C := Tryz.checked) (os := os) (X := (fun w (_ : Array Value) => laidMetH Tryz.prog lPow w)) false (World.doorLaid Tryz.prog 400 os) #[.slice none 0 0] 8 rfl (World.shaped_of_RefB (by kernel_rfl) (by kernel_rfl)) (by kernel_rfl) (by kernel_rfl) (by kernel_rfl) (door_met os _)) ?_
 intro W base args ds gs before hval0 hW _ _ hL _
 have hval : ∀ (j : Nat) t v, Tryz.f3.params[j]? = some t → args[j]? = some v → Value.okWide Tryz.prog W .any base t v := hval0
 have hW' := hW
 obtain ⟨p, q, hA0, hV, rfl, hfz, hnd⟩ := hW
 obtain ⟨rfl, rfl⟩ := trodVars_none hV
 have hA : DataW.TrodAll enc Tryz.prog W 0 (fun _ => true) true Tryz.f3.params.toList args.toList ds p := hA0
 rw [Tryz.params3] at hA hval
 obtain ⟨v0, d0, rfl, rfl, h0⟩ := trodAll_one hA
 obtain ⟨l, hl, hb⟩ := in_slice encC CallX.Ok (m := 7) Tryz.underlying22 (by kernel_rfl) (by decide) (hval 0 _ _ rfl rfl) (fun n cs y hy => in_cx hy) h0
 obtain ⟨sa, sc, rfl, _⟩ := id hl
 refine (calls_of (catalogDoes_spec W (pow_ok hL) [] l sa sc hl.rd hb)).mono fun e W' ⟨he, hbl⟩ => ⟨.bool true, he, ?_⟩
 exact law_post (tb := 4) cLaid (by
   rw [Tryz.params3]
   intro t ht
   have hall : (#[22].toList.all fun t => Tryz.prog.readableRec t && decide (t < Tryz.prog.types.size)) = true := by kernel_rfl
   have h := List.all_eq_true.1 hall t ht
   rw [Bool.and_eq_true, decide_eq_true_eq] at h
   exact h) rfl (by kernel_rfl) Tryz.underlying4 ⟨rfl, rfl, rfl⟩ hW' hbl
theorem cdoesc_holds : Rows.CatalogDoesSaid :=
 OpenClaim.holds_of_wide 3 Tryz.f3 rfl rfl rfl rfl rfl rfl rfl ⟨rfl, rfl, rfl, rfl, rfl⟩ rfl rfl rfl rfl rfl (by kernel_rfl) Tryz.func3 cdoes_facts
   (of_decide_eq_true (by kernel_rfl)) (by unfold Func.isWrapper; first|(rw [if_pos (by decide +kernel)]; kernel_rfl)|(rw [if_neg (by decide +kernel)]; exact ⟨rfl, rfl⟩))
   (fun os started H enc _ => cdoesc_lifted os started H enc)
theorem cdoesc_card : Rows.CatalogDoesCardSaid :=
 Claim7.holds_tied_plain_at .later [] [.data] true (true, "e82b0f95ab25df48c8a246f43b1ba122a3b83a13a8e90fa58a70675018bab0c4") false
   cdoesc_holds (fun _ h => by cases h) (by kernel_rfl) (fun _ h => by cases h) catalogDoes_row_tie rfl ⟨rfl, rfl⟩ (by kernel_rfl) rfl
   (fun f fn hf hfn => by
     obtain rfl : f = 3 := Option.some.inj ((show Tryz.prog.funcNamed Rows.catalogDoesRow.func = some 3 by kernel_rfl).symm.trans hf) |>.symm
     obtain rfl : fn = Tryz.f3 := (Option.some.inj (Tryz.func3.symm.trans hfn)).symm
     exact ⟨cdoes_looks, fun j t ht => by
       rw [Tryz.params3] at ht
       have hm : t ∈ [22] := by simpa using Array.mem_of_getElem? ht
       have hall : ([22].all fun u => !Tryz.prog.wantsStandIn u) = true := by kernel_rfl
       exact (show Tryz.prog.wantsStandIn t = false by simpa using List.all_eq_true.1 hall t hm)⟩)
   (by first|exact cdoes_goes | kernel_rfl)
#print axioms cdoesc_card
end Go.Proofs.YtgdhcgnmffgkiaaGreatDoor
