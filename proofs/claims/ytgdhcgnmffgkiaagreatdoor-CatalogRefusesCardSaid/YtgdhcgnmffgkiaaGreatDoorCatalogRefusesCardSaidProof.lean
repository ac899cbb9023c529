import Derived.Test.YtgdhcgnmffgkiaaGreatDoorPart2
import Derived.Test.YtgdhcgnmffgkiaaGreatDoorFacts11
import Derived.Test.YtgdhcgnmffgkiaaGreatDoorPart25
/- CatalogRefuses holds for every root, every method name and all numbers that it may be handed: every call of the law returns true, with no condition on the root, the name or the numbers. -/
namespace Go.Proofs.YtgdhcgnmffgkiaaGreatDoor
open Go.Vc Sim Go.ChangeShapes Go.WideShapes Go.RowKit
set_option maxRecDepth 100000
theorem crefusesc_lifted (os : Os) (started : os.Started) (H : Type) (enc : TypeId × Value → H) :
   ReturnsInHanded {} Tryz.checked os 4 .any (fun w args => (Rows.catalogRefusesSpec.pre enc Tryz.prog Tryz.f4 [] false w args ∧ laidMetH Tryz.prog lPow w) ∧ sizedMet enc Tryz.prog Tryz.f4 (OpenSpec.ofChange Rows.catalogRefusesSpec) false w args)
     (Rows.catalogRefusesSpec.post enc Tryz.prog Tryz.f4 false true false false) := by
 refine returnsInHanded_of_change_and (C := Tryz.checked) (X := (fun w (_ : Array Value) => laidMetH Tryz.prog lPow w)) (fun _ _ _ hh h => h.of_heap hh) cOwn started (by kernel_rfl) Tryz.func4
   (ChangeSpec.witness_shaped (enc := enc) (C := Tryz.checked) (os := os) (X := (fun w (_ : Array Value) => laidMetH Tryz.prog lPow w)) false (World.doorLaid Tryz.prog 400 os) #[.agg #[.int .i64 0, .int .i64 0], .string ByteArray.empty, .slice none 0 0] 8 rfl (World.shaped_of_RefB (by kernel_rfl) (by kernel_rfl)) (by kernel_rfl) (by kernel_rfl) (by kernel_rfl) (door_met os _)) ?_
 intro W base args ds gs before hval0 hW _ _ hL _
 have hval : ∀ (j : Nat) t v, Tryz.f4.params[j]? = some t → args[j]? = some v → Value.okWide Tryz.prog W .any base t v := hval0
 have hW' := hW
 obtain ⟨p, q, hA0, hV, rfl, hfz, hnd⟩ := hW
 obtain ⟨rfl, rfl⟩ := trodVars_none hV
 have hA : DataW.TrodAll enc Tryz.prog W 0 (fun _ => true) true Tryz.f4.params.toList args.toList ds p := hA0
 rw [Tryz.params4] at hA hval
 obtain ⟨v0, v1, v2, d0, d1, d2, p0', p1, p2, rfl, rfl, rfl, h0, _, h2⟩ := trodAll_three hA
 obtain ⟨k, r, rfl, hr⟩ := in_root (hval 0 _ _ rfl rfl) h0
 obtain ⟨s, rfl⟩ := okWide_string Tryz.underlying9 (hval 1 _ _ rfl rfl)
 obtain ⟨l, hl, hb⟩ := in_slice encI Any (m := 1) Tryz.underlying26 (by kernel_rfl) (by decide) (hval 2 _ _ rfl rfl) (fun n cs y hy => in_i64 hy) h2
 obtain ⟨sa, sc, rfl, _⟩ := id hl
 refine (calls_of (catalogRefuses_spec W (pow_ok hL) [] k r hr s l sa sc hl.rd)).mono fun e W' ⟨he, hbl⟩ => ⟨.bool true, he, ?_⟩
 exact law_post (tb := 4) cLaid (by
   rw [Tryz.params4]
   intro t ht
   have hall : (#[36, 9, 26].toList.all fun t => Tryz.prog.readableRec t && decide (t < Tryz.prog.types.size)) = true := by kernel_rfl
   have h := List.all_eq_true.1 hall t ht
   rw [Bool.and_eq_true, decide_eq_true_eq] at h
   exact h) rfl (by kernel_rfl) Tryz.underlying4 ⟨rfl, rfl, rfl⟩ hW' hbl
theorem crefusesc_holds : Rows.CatalogRefusesSaid :=
 OpenClaim.holds_of_wide 4 Tryz.f4 rfl rfl rfl rfl rfl rfl rfl ⟨rfl, rfl, rfl, rfl, rfl⟩ rfl rfl rfl rfl rfl (by kernel_rfl) Tryz.func4 crefuses_facts
   (of_decide_eq_true (by kernel_rfl)) (by unfold Func.isWrapper; first|(rw [if_pos (by decide +kernel)]; kernel_rfl)|(rw [if_neg (by decide +kernel)]; exact ⟨rfl, rfl⟩))
   (fun os started H enc _ => crefusesc_lifted os started H enc)
theorem crefusesc_card : Rows.CatalogRefusesCardSaid :=
 Claim7.holds_tied_plain_at .later [] [.data] true (true, "e82b0f95ab25df48c8a246f43b1ba122a3b83a13a8e90fa58a70675018bab0c4") false
   crefusesc_holds (fun _ h => by cases h) (by kernel_rfl) (fun _ h => by cases h) catalogRefuses_row_tie rfl ⟨rfl, rfl⟩ (by kernel_rfl) rfl
   (fun f fn hf hfn => by
     obtain rfl : f = 4 := Option.some.inj ((show Tryz.prog.funcNamed Rows.catalogRefusesRow.func = some 4 by kernel_rfl).symm.trans hf) |>.symm
     obtain rfl : fn = Tryz.f4 := (Option.some.inj (Tryz.func4.symm.trans hfn)).symm
     exact ⟨crefuses_looks, fun j t ht => by
       rw [Tryz.params4] at ht
       have hm : t ∈ [36, 9, 26] := by simpa using Array.mem_of_getElem? ht
       have hall : ([36, 9, 26].all fun u => !Tryz.prog.wantsStandIn u) = true := by kernel_rfl
       exact (show Tryz.prog.wantsStandIn t = false by simpa using List.all_eq_true.1 hall t hm)⟩)
   (by first|exact crefuses_goes | kernel_rfl)
#print axioms crefusesc_card
end Go.Proofs.YtgdhcgnmffgkiaaGreatDoor
