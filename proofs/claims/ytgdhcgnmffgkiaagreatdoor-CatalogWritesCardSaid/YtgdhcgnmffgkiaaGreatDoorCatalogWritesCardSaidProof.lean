import Derived.Test.YtgdhcgnmffgkiaaGreatDoorPart2
import Derived.Test.YtgdhcgnmffgkiaaGreatDoorFacts10
import Derived.Test.YtgdhcgnmffgkiaaGreatDoorPart30
/- CatalogWrites: after any sequence of calls, a method whose Writes flag is false and every call that fails change no cell; there are no conditions. -/
namespace Go.Proofs.YtgdhcgnmffgkiaaGreatDoor
open Go.Vc Sim Go.ChangeShapes Go.WideShapes Go.RowKit
set_option maxRecDepth 100000
theorem cwritesc_lifted (os : Os) (started : os.Started) (H : Type) (enc : TypeId × Value → H) :
   ReturnsInHanded {} Tryz.checked os 5 .any (fun w args => (Rows.catalogWritesSpec.pre enc Tryz.prog Tryz.f5 [] false w args ∧ laidMetH Tryz.prog lPow w) ∧ sizedMet enc Tryz.prog Tryz.f5 (OpenSpec.ofChange Rows.catalogWritesSpec) false w args)
     (Rows.catalogWritesSpec.post enc Tryz.prog Tryz.f5 false true false false) := by
 refine returnsInHanded_of_change_and (C := Tryz.checked) (X := (fun w (_ : Array Value) => laidMetH Tryz.prog lPow w)) (fun _ _ _ hh h => h.of_heap hh) cOwn started (by kernel_rfl) Tryz.func5
   (ChangeSpec.witness_shaped (enc := enc) (C := Tryz.checked) (os := os) (X := (fun w (_ : Array Value) => laidMetH Tryz.prog lPow w)) false (World.doorLaid Tryz.prog 400 os) #[.slice none 0 0, .agg #[.int .u8 0, .int .u8 0, .bool false, .int .i64 0, .int .i64 0, .int .i64 0, .int .i16 0]] 8 rfl (World.shaped_of_RefB (by kernel_rfl) (by kernel_rfl)) (by kernel_rfl) (by kernel_rfl) (by kernel_rfl) (door_met os _)) ?_
 intro W base args ds gs before hval0 hW _ _ hL _
 have hval : ∀ (j : Nat) t v, Tryz.f5.params[j]? = some t → args[j]? = some v → Value.okWide Tryz.prog W .any base t v := hval0
 have hW' := hW
 obtain ⟨p, q, hA0, hV, rfl, hfz, hnd⟩ := hW
 obtain ⟨rfl, rfl⟩ := trodVars_none hV
 have hA : DataW.TrodAll enc Tryz.prog W 0 (fun _ => true) true Tryz.f5.params.toList args.toList ds p := hA0
 rw [Tryz.params5] at hA hval
 obtain ⟨v0, v1, d0, d1, p0, p1, rfl, rfl, rfl, h0, h1⟩ := trodAll_two hA
 obtain ⟨l, hl, hb⟩ := in_slice encCy CallY.Ok (m := 7) Tryz.underlying22 (by kernel_rfl) (by decide) (hval 0 _ _ rfl rfl) (fun n cs y hy => in_cy hy) h0
 obtain ⟨sa, sc, rfl, _⟩ := id hl
 obtain ⟨X, rfl, hX⟩ := in_cy1 (hval 1 _ _ rfl rfl) h1
 refine (calls_of (catalogWrites_spec W (pow_ok hL) [] l sa sc hl.rd hb X hX)).mono fun e W' ⟨he, hbl⟩ => ⟨.bool true, he, ?_⟩
 exact law_post (tb := 4) cLaid (by
   rw [Tryz.params5]
   intro t ht
   have hall : (#[22, 29].toList.all fun t => Tryz.prog.readableRec t && decide (t < Tryz.prog.types.size)) = true := by kernel_rfl
   have h := List.all_eq_true.1 hall t ht
   rw [Bool.and_eq_true, decide_eq_true_eq] at h
   exact h) rfl (by kernel_rfl) Tryz.underlying4 ⟨rfl, rfl, rfl⟩ hW' hbl
theorem cwritesc_holds : Rows.CatalogWritesSaid :=
 OpenClaim.holds_of_wide 5 Tryz.f5 rfl rfl rfl rfl rfl rfl rfl ⟨rfl, rfl, rfl, rfl, rfl⟩ rfl rfl rfl rfl rfl (by kernel_rfl) Tryz.func5 cwrites_facts
   (of_decide_eq_true (by kernel_rfl)) (by unfold Func.isWrapper; first|(rw [if_pos (by decide +kernel)]; kernel_rfl)|(rw [if_neg (by decide +kernel)]; exact ⟨rfl, rfl⟩))
   (fun os started H enc _ => cwritesc_lifted os started H enc)
theorem cwritesc_card : Rows.CatalogWritesCardSaid :=
 Claim7.holds_tied_plain_at .later [] [.data] true (true, "e82b0f95ab25df48c8a246f43b1ba122a3b83a13a8e90fa58a70675018bab0c4") false
   cwritesc_holds (fun _ h => by cases h) (by kernel_rfl) (fun _ h => by cases h) catalogWrites_row_tie rfl ⟨rfl, rfl⟩ (by kernel_rfl) rfl
   (fun f fn hf hfn => by
     obtain rfl : f = 5 := Option.some.inj ((show Tryz.prog.funcNamed Rows.catalogWritesRow.func = some 5 by kernel_rfl).symm.trans hf) |>.symm
     obtain rfl : fn = Tryz.f5 := (Option.some.inj (Tryz.func5.symm.trans hfn)).symm
     exact ⟨cwrites_looks, fun j t ht => by
       rw [Tryz.params5] at ht
       have hm : t ∈ [22, 29] := by simpa using Array.mem_of_getElem? ht
       have hall : ([22, 29].all fun u => !Tryz.prog.wantsStandIn u) = true := by kernel_rfl
       exact (show Tryz.prog.wantsStandIn t = false by simpa using List.all_eq_true.1 hall t hm)⟩)
   (by first|exact cwrites_goes | kernel_rfl)
#print axioms cwritesc_card
end Go.Proofs.YtgdhcgnmffgkiaaGreatDoor
