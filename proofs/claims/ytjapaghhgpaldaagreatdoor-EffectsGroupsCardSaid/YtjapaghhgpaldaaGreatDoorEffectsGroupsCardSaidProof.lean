import Derived.Test.YtjapaghhgpaldaaGreatDoorPart6
import Derived.Test.YtjapaghhgpaldaaGreatDoorPart7
/- The law EffectsGroups of package simulcastlaw47 returns true for every three effects and leaves its argument as it was: Join is commutative and associative, the zero effect is its neutral element on normalized effects, and twice an effect is its join with itself. -/
namespace Go.Proofs.YtjapaghhgpaldaaGreatDoor
open Go.Vc Sim Go.ChangeShapes Go.WideShapes Go.RowKit
set_option maxRecDepth 100000
theorem in_ef3 {H : Type} {enc : TypeId × Value → H} {w : World} {base : Nat} {spare : Nat → Bool} {held : Bool} {r : Reach} {b0 : Nat} {v : Value} {d : DataW H} {ps : List MemPlace}
    (hval : Value.okWide Tryz.prog w r b0 50 v) (h : DataW.Trod enc Tryz.prog w base spare held 50 v d ps) (hw : ∀ q ∈ d.weights Tryz.prog 50, q ≤ reachBytes) :
    ∃ (p q r : P6) (a b c : Ef), v = .agg (List.toArray (efs3 p q r a b c)) ∧ RdEfV w [] (efV p a) a ∧ RdEfV w [] (efV q b) b ∧ RdEfV w [] (efV r c) c ∧ a.sm 1125899906842624 ∧ b.sm 1125899906842624 ∧ c.sm 1125899906842624 := by
  obtain ⟨fuel, hf⟩ := h
  simp only [Value.okWide, Tryz.underlying50] at hval
  obtain ⟨cs, rfl, _⟩ := hval
  have hf : DataW.trod enc Tryz.prog w base spare held fuel 50 cs.toList = some (d, ps) := hf
  obtain ⟨xs, m, _, hy, hl, hxl, hg⟩ := DataW.trod_array Tryz.underlying50 hf
  have c4 : Tryz.prog.cellsOf 30 = 4 := by kernel_rfl
  have c12 : Tryz.prog.cellsOf 50 = 12 := by kernel_rfl
  rw [c12] at hl
  match xs, hxl with
  | [y0, y1, y2], _ =>
    have g0 := hg 0 (by omega)
    have g1 := hg 1 (by omega)
    have g2 := hg 2 (by omega)
    rw [c4] at g0 g1 g2
    have hd : d = .agg [y0.1, y1.1, y2.1] := congrArg Prod.fst hy
    have hwt : d.weights Tryz.prog 50 = y0.1.weights Tryz.prog 30 ++ (y1.1.weights Tryz.prog 30 ++ (y2.1.weights Tryz.prog 30 ++ [])) := by
      rw [hd]
      simp only [DataW.weights, Tryz.underlying50]
      rfl
    rw [hwt] at hw
    obtain ⟨p, a, ea, ra, sa, _⟩ := in_ef g0 (fun q hq => hw q (List.mem_append_left _ hq))
    obtain ⟨q, b, eb, rb, sb, _⟩ := in_ef g1 (fun q hq => hw q (List.mem_append_right _ (List.mem_append_left _ hq)))
    obtain ⟨r, c, ec, rc, sc, _⟩ := in_ef g2 (fun q hq => hw q (List.mem_append_right _ (List.mem_append_right _ (List.mem_append_left _ hq))))
    refine ⟨p, q, r, a, b, c, ?_, ra, rb, rc, sa, sb, sc⟩
    have : cs.toList = efs3 p q r a b c := by
      rw [efs3, ← ea, ← eb, ← ec]
      apply List.ext_getElem?
      intro i
      by_cases h1 : i < 4
      · rw [List.getElem?_append_left (by simp; omega)]
        simp [List.getElem?_take, h1]
      · by_cases h2 : i < 8
        · rw [List.getElem?_append_right (by simp; omega), List.getElem?_append_left (by simp; omega)]
          simp [List.getElem?_take, List.getElem?_drop, hl] at *
          have e : 4 + (i - 4) = i := by omega
          rw [if_pos (by omega), e]
        · rw [List.getElem?_append_right (by simp; omega), List.getElem?_append_right (by simp; omega)]
          simp [List.getElem?_take, List.getElem?_drop, hl] at *
          by_cases h3 : i < 12
          · have e : 8 + (i - 4 - 4) = i := by omega
            rw [if_pos (by omega), e]
          · rw [if_neg (by omega)]
            exact Array.getElem?_eq_none (by omega)
    rw [← this]
theorem groups_lifted (os : Os) (started : os.Started) (H : Type) (enc : TypeId × Value → H) :
    ReturnsInHanded {} Tryz.checked os 5 .any (fun w args => (Rows.effectsGroupsSpec.pre enc Tryz.prog Tryz.f5 [] false w args ∧ laidMetH Tryz.prog lKw w) ∧ sizedMet enc Tryz.prog Tryz.f5 (OpenSpec.ofChange Rows.effectsGroupsSpec) false w args)
      (Rows.effectsGroupsSpec.post enc Tryz.prog Tryz.f5 false true false false) := by
  refine returnsInHanded_of_change_and (C := Tryz.checked) (X := (fun w (_ : Array Value) => laidMetH Tryz.prog lKw w)) (fun _ _ _ hh h => h.of_heap hh) cOwn started (by kernel_rfl) Tryz.func5
    (ChangeSpec.witness_shaped (enc := enc) (C := Tryz.checked) (os := os) (X := (fun w (_ : Array Value) => laidMetH Tryz.prog lKw w)) false (World.doorLaid Tryz.prog 400 os) #[.agg #[.slice none 0 0, .slice none 0 0, .slice none 0 0, .int .i64 0, .slice none 0 0, .slice none 0 0, .slice none 0 0, .int .i64 0, .slice none 0 0, .slice none 0 0, .slice none 0 0, .int .i64 0]] 8 rfl (World.shaped_of_RefB (by kernel_rfl) (by kernel_rfl)) (by kernel_rfl) (by kernel_rfl) (by kernel_rfl) (door_met os _)) ?_
  intro W base args ds gs before hval0 hW _ hwt hL _
  have hval : ∀ (j : Nat) t v, Tryz.f5.params[j]? = some t → args[j]? = some v → Value.okWide Tryz.prog W .any base t v := hval0
  have hW' := hW
  obtain ⟨p, q, hA0, hV, rfl, hfz, hnd⟩ := hW
  obtain ⟨rfl, rfl⟩ := trodVars_none hV
  have hA : DataW.TrodAll enc Tryz.prog W 0 (fun _ => true) true Tryz.f5.params.toList args.toList ds p := hA0
  have hwt : (DataW.weightsEach Tryz.prog (Tryz.f5.params.toList ++ []) (ds ++ [])).all (· ≤ reachBytes) = true := hwt
  rw [Tryz.params5] at hA hval hwt
  obtain ⟨v0, d0, rfl, rfl, h0⟩ := trodAll_one hA
  have hw0 : ∀ q ∈ d0.weights Tryz.prog 50, q ≤ reachBytes := fun q hq => by
    have := List.all_eq_true.1 hwt q (by simp only [List.append_nil]; exact List.mem_append_left _ hq)
    simpa using this
  obtain ⟨p, q, r, a, b, c, rfl, ra, rb, rc, sa, sb, sc⟩ := in_ef3 (hval 0 _ _ rfl rfl) h0 hw0
  refine (calls_of (groups_spec W (kw_ok hL) p q r a b c ra rb rc sa sb sc)).mono fun e W' ⟨he, hbl⟩ => ⟨.bool true, he, ?_⟩
  exact law_post (tb := 4) cLaid (by
    rw [Tryz.params5]
    intro t ht
    have hall : (#[50].toList.all fun t => Tryz.prog.readableRec t && decide (t < Tryz.prog.types.size)) = true := by kernel_rfl
    have h := List.all_eq_true.1 hall t ht
    rw [Bool.and_eq_true, decide_eq_true_eq] at h
    exact h) rfl (by kernel_rfl) Tryz.underlying4 ⟨rfl, rfl, rfl⟩ hW' hbl

theorem groups_holds : Rows.EffectsGroupsSaid :=
  OpenClaim.holds_of_wide 5 Tryz.f5 rfl rfl rfl rfl rfl rfl rfl ⟨rfl, rfl, rfl, rfl, rfl⟩ rfl rfl rfl rfl rfl (by kernel_rfl) Tryz.func5 groups_facts
    (of_decide_eq_true (by kernel_rfl)) (by unfold Func.isWrapper; first | (rw [if_pos (by decide +kernel)]; kernel_rfl) | (rw [if_neg (by decide +kernel)]; exact ⟨rfl, rfl⟩))
    (fun os started H enc _ => groups_lifted os started H enc)

theorem groups_card : Rows.EffectsGroupsCardSaid :=
  Claim7.holds_tied_plain_at .later [] [.widerDeep, .data] true (true, "d65b15a91b9685c2ba24c3902ea80b89174cc3c41e5e6e8a46a97760f89db51b") false
    groups_holds (fun _ h => by cases h) (by kernel_rfl) (fun _ h => by cases h) effectsGroups_row_tie rfl ⟨rfl, rfl⟩ (by kernel_rfl) rfl
    (fun f fn hf hfn => by
      obtain rfl : f = 5 := Option.some.inj ((show Tryz.prog.funcNamed Rows.effectsGroupsRow.func = some 5 by kernel_rfl).symm.trans hf) |>.symm
      obtain rfl : fn = Tryz.f5 := (Option.some.inj (Tryz.func5.symm.trans hfn)).symm
      exact ⟨groups_looks, fun j t ht => by
        rw [Tryz.params5] at ht
        have hm : t ∈ [50] := by simpa using Array.mem_of_getElem? ht
        have hall : ([50].all fun u => !Tryz.prog.wantsStandIn u) = true := by kernel_rfl
        exact (show Tryz.prog.wantsStandIn t = false by simpa using List.all_eq_true.1 hall t hm)⟩)
    (by kernel_rfl)
#print axioms groups_card
end Go.Proofs.YtjapaghhgpaldaaGreatDoor

