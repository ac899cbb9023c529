import Derived.OpenShut
import Derived.Test.YtilnknokgflkjaaDoorPart5
import Derived.Test.YtilnknokgflkjaaDoorPart6
/- For every list, every pair of indices and every value the Go function ArraySwaps of package simulcastlaw39 returns true, and its arguments read afterwards as they read before: exchanging two values twice restores the array, and Set changes exactly one value. Condition: the table array.powers reads at the start as the program text lays it (tied by the card). -/
/- The card of ArraySwaps. -/
namespace Go.Proofs.YtilnknokgflkjaaDoor
open Go.Vc Sim Go.ChangeShapes Go.WideShapes Go.RowKit
set_option maxRecDepth 100000
theorem in_pair8 {H : Type} {enc : TypeId × Value → H} {w : World} {base : Nat} {spare : Nat → Bool} {held : Bool} {r : Reach} {b0 : Nat} {v : Value} {d : DataW H} {ps : List MemPlace}
    (hval : Value.okWide Tryd.prog w r b0 51 v) (h : DataW.Trod enc Tryd.prog w base spare held 51 v d ps) : ∃ a b, v = .agg #[.int .u8 a, .int .u8 b] ∧ u8P a ∧ u8P b := by
  obtain ⟨fuel, hf⟩ := h
  simp only [Value.okWide, Tryd.underlying51] at hval
  obtain ⟨cs, rfl, hsz, _⟩ := hval
  have c5 : Tryd.prog.cellsOf 5 = 1 := by kernel_rfl
  have c51 : Tryd.prog.cellsOf 51 = 2 := by kernel_rfl
  rw [c51] at hsz
  obtain ⟨xs, n', _, _, hlen, hxl, hel⟩ := DataW.trod_array Tryd.underlying51 hf
  have f0 : DataW.trod enc Tryd.prog w base spare held n' 5 (((Value.agg cs).cells.toList.drop (0 * Tryd.prog.cellsOf 5)).take (Tryd.prog.cellsOf 5)) = xs[0]? := hel 0 (by decide)
  have f1 : DataW.trod enc Tryd.prog w base spare held n' 5 (((Value.agg cs).cells.toList.drop (1 * Tryd.prog.cellsOf 5)).take (Tryd.prog.cellsOf 5)) = xs[1]? := hel 1 (by decide)
  rw [c5] at f0 f1
  obtain ⟨l⟩ := cs
  match l, hsz with
  | [a0, a1], _ =>
    match xs, hxl with
    | [y0, y1], _ =>
      obtain ⟨k0, e0, _, w0⟩ := DataW.trod_int Tryd.underlying5 (show DataW.trod _ _ _ _ _ _ n' _ [a0] = some y0 from f0)
      obtain ⟨k1, e1, _, w1⟩ := DataW.trod_int Tryd.underlying5 (show DataW.trod _ _ _ _ _ _ n' _ [a1] = some y1 from f1)
      simp only [List.cons.injEq, and_true] at e0 e1
      subst e0; subst e1
      exact ⟨k0, k1, rfl, wf_u8 w0, wf_u8 w1⟩
theorem swaps_lifted (os : Os) (started : os.Started) (H : Type) (enc : TypeId × Value → H) :
    ReturnsInHanded {} Tryd.checked os 5 .any (fun w args => (Rows.arraySwapsSpec.pre enc Tryd.prog Tryd.f5 [] false w args ∧ laidMetH Tryd.prog lPow w) ∧ sizedMet enc Tryd.prog Tryd.f5 (OpenSpec.ofChange Rows.arraySwapsSpec) false w args)
      (Rows.arraySwapsSpec.post enc Tryd.prog Tryd.f5 false true false false) := by
  refine returnsInHanded_of_change_and (C := Tryd.checked) (X := (fun w (_ : Array Value) => laidMetH Tryd.prog lPow w)) (fun _ _ _ hh h => h.of_heap hh) cOwn started (by kernel_rfl) Tryd.func5
    (ChangeSpec.witness_shaped (enc := enc) (C := Tryd.checked) (os := os) (X := (fun w (_ : Array Value) => laidMetH Tryd.prog lPow w)) false (World.doorLaid Tryd.prog 400 os) #[.slice none 0 0, .agg #[.int .u8 0, .int .u8 0], .int .i64 0] 8 rfl (World.shaped_of_RefB (by kernel_rfl) (by kernel_rfl)) (by kernel_rfl) (by kernel_rfl) (by kernel_rfl) (door_met os _)) ?_
  intro W base args ds gs before hval0 hW _ _ hL _
  have hval : ∀ (j : Nat) t v, Tryd.f5.params[j]? = some t → args[j]? = some v → Value.okWide Tryd.prog W .any base t v := hval0
  have hW' := hW
  obtain ⟨p, q, hA0, hV, rfl, hfz, hnd⟩ := hW
  obtain ⟨rfl, rfl⟩ := trodVars_none hV
  have hA : DataW.TrodAll enc Tryd.prog W 0 (fun _ => true) true Tryd.f5.params.toList args.toList ds p := hA0
  rw [Tryd.params5] at hA hval
  obtain ⟨v0, v1, v2, d0, d1, d2, p0, p1, p2, rfl, rfl, rfl, h0, h1, h2⟩ := trodAll_three hA
  obtain ⟨l, hl, hb⟩ := in_ints Tryd.underlying22 Tryd.underlying2 (by kernel_rfl) (hval 0 _ _ rfl rfl) h0
  obtain ⟨q0, q1, rfl, hq0, hq1⟩ := in_pair8 (hval 1 _ _ rfl rfl) h1
  obtain ⟨v, rfl, hv⟩ := in_i64 Tryd.underlying2 (hval 2 _ _ rfl rfl) h2
  refine (calls_of (swaps_spec W (pow_ok hL) v0 l hl hb q0 q1 v hq0 hq1 hv)).mono fun e W' ⟨he, hbl⟩ => ⟨.bool true, he, ?_⟩
  exact law_post (tb := 4) cLaid (by
    rw [Tryd.params5]
    intro t ht
    have hall : (#[22, 51, 2].toList.all fun t => Tryd.prog.readableRec t && decide (t < Tryd.prog.types.size)) = true := by kernel_rfl
    have h := List.all_eq_true.1 hall t ht
    rw [Bool.and_eq_true, decide_eq_true_eq] at h
    exact h) rfl (by kernel_rfl) Tryd.underlying4 ⟨rfl, rfl, rfl⟩ hW' hbl

theorem swaps_holds : Rows.ArraySwapsSaid :=
  OpenClaim.holds_of_wide 5 Tryd.f5 rfl rfl rfl rfl rfl rfl rfl ⟨rfl, rfl, rfl, rfl, rfl⟩ rfl rfl rfl rfl rfl (by kernel_rfl) Tryd.func5 (by kernel_rfl)
    (of_decide_eq_true (by kernel_rfl)) (by unfold Func.isWrapper; first | (rw [if_pos (by decide +kernel)]; kernel_rfl) | (rw [if_neg (by decide +kernel)]; exact ⟨rfl, rfl⟩))
    (fun os started H enc _ => swaps_lifted os started H enc)

theorem swaps_card : Rows.ArraySwapsCardSaid :=
  Claim7.holds_tied_plain_at .later [] [.data] true (true, "b9530f391fc96e3f4485f1e0bb62de64e30c7b22471303385892b0e10d98af6c") false
    swaps_holds (fun _ h => by cases h) (by kernel_rfl) (fun _ h => by cases h) arraySwaps_row_tie rfl ⟨rfl, rfl⟩ (by kernel_rfl) rfl
    (fun f fn hf hfn => by
      obtain rfl : f = 5 := Option.some.inj ((show Tryd.prog.funcNamed Rows.arraySwapsRow.func = some 5 by kernel_rfl).symm.trans hf) |>.symm
      obtain rfl : fn = Tryd.f5 := (Option.some.inj (Tryd.func5.symm.trans hfn)).symm
      exact ⟨by kernel_rfl, fun j t ht => by
        rw [Tryd.params5] at ht
        have hm : t ∈ [22, 51, 2] := by simpa using Array.mem_of_getElem? ht
        have hall : ([22, 51, 2].all fun u => !Tryd.prog.wantsStandIn u) = true := by kernel_rfl
        exact (show Tryd.prog.wantsStandIn t = false by simpa using List.all_eq_true.1 hall t hm)⟩)
    (by kernel_rfl)
#print axioms swaps_card
end Go.Proofs.YtilnknokgflkjaaDoor

