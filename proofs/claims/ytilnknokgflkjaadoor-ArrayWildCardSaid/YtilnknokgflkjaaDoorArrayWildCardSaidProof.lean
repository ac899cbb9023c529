import Derived.OpenShut
import Derived.Test.YtilnknokgflkjaaDoorPart3
import Derived.Test.YtilnknokgflkjaaDoorPart5
/- For every number of nodes, every list of words and every operation the Go function ArrayWild of package simulcastlaw39 returns true, and its arguments read afterwards as they read before: on arbitrary words nothing is written on error, and Walk terminates. Condition: the table array.powers reads at the start as the program text lays it (tied by the card). -/
/- The card of ArrayWild. -/
namespace Go.Proofs.YtilnknokgflkjaaDoor
open Go.Vc Sim Go.ChangeShapes Go.WideShapes Go.RowKit
set_option maxRecDepth 100000
theorem in_act {H : Type} {enc : TypeId × Value → H} {w : World} {base : Nat} {spare : Nat → Bool} {held : Bool} {n : Nat} {cs : List Value} {y : DataW H × List MemPlace}
    (h : DataW.trod enc Tryd.prog w base spare held n 48 cs = some y) : ∃ x : Act39, x.ok ∧ cs = x.cells := by
  obtain ⟨xs, n', _, _, hlen, hxl, hf⟩ := DataW.trod_struct Tryd.underlying48 h
  have c5 : Tryd.prog.cellsOf 5 = 1 := by kernel_rfl
  have c2 : Tryd.prog.cellsOf 2 = 1 := by kernel_rfl
  have c48 : Tryd.prog.cellsOf 48 = 4 := by kernel_rfl
  rw [c48] at hlen
  have f0 : DataW.trod enc Tryd.prog w base spare held n' 5 ((cs.drop 0).take (Tryd.prog.cellsOf 5)) = xs[0]? := hf 0 _ rfl
  have f1 : DataW.trod enc Tryd.prog w base spare held n' 2 ((cs.drop 1).take (Tryd.prog.cellsOf 2)) = xs[1]? := hf 1 _ rfl
  have f2 : DataW.trod enc Tryd.prog w base spare held n' 2 ((cs.drop 2).take (Tryd.prog.cellsOf 2)) = xs[2]? := hf 2 _ rfl
  have f3 : DataW.trod enc Tryd.prog w base spare held n' 2 ((cs.drop 3).take (Tryd.prog.cellsOf 2)) = xs[3]? := hf 3 _ rfl
  rw [c5] at f0
  rw [c2] at f1 f2 f3
  match cs, hlen with
  | [a0, a1, a2, a3], _ =>
    match xs, hxl with
    | [y0, y1, y2, y3], _ =>
      obtain ⟨k0, e0, _, w0⟩ := DataW.trod_int Tryd.underlying5 (show DataW.trod _ _ _ _ _ _ n' _ [a0] = some y0 from f0)
      obtain ⟨k1, e1, _, w1⟩ := DataW.trod_int Tryd.underlying2 (show DataW.trod _ _ _ _ _ _ n' _ [a1] = some y1 from f1)
      obtain ⟨k2, e2, _, w2⟩ := DataW.trod_int Tryd.underlying2 (show DataW.trod _ _ _ _ _ _ n' _ [a2] = some y2 from f2)
      obtain ⟨k3, e3, _, w3⟩ := DataW.trod_int Tryd.underlying2 (show DataW.trod _ _ _ _ _ _ n' _ [a3] = some y3 from f3)
      simp only [List.cons.injEq, and_true] at e0 e1 e2 e3
      subst e0; subst e1; subst e2; subst e3
      exact ⟨⟨k0, k1, k2, k3⟩, ⟨wf_u8 w0, wf_i64 w1, wf_i64 w2, wf_i64 w3⟩, rfl⟩
theorem in_act1 {H : Type} {enc : TypeId × Value → H} {w : World} {base : Nat} {spare : Nat → Bool} {held : Bool} {r : Reach} {b0 : Nat} {v : Value} {d : DataW H} {ps : List MemPlace}
    (hval : Value.okWide Tryd.prog w r b0 48 v) (h : DataW.Trod enc Tryd.prog w base spare held 48 v d ps) : ∃ x : Act39, v = .agg (List.toArray x.cells) ∧ x.ok := by
  obtain ⟨fuel, hf⟩ := h
  simp only [Value.okWide, Tryd.underlying48] at hval
  obtain ⟨cs, rfl, _⟩ := hval
  obtain ⟨x, hx, hc⟩ := in_act hf
  refine ⟨x, ?_, hx⟩
  have : cs.toList = x.cells := hc
  rw [← this]
theorem wild_lifted (os : Os) (started : os.Started) (H : Type) (enc : TypeId × Value → H) :
    ReturnsInHanded {} Tryd.checked os 6 .any (fun w args => (Rows.arrayWildSpec.pre enc Tryd.prog Tryd.f6 [] false w args ∧ laidMetH Tryd.prog lPow w) ∧ sizedMet enc Tryd.prog Tryd.f6 (OpenSpec.ofChange Rows.arrayWildSpec) false w args)
      (Rows.arrayWildSpec.post enc Tryd.prog Tryd.f6 false true false false) := by
  refine returnsInHanded_of_change_and (C := Tryd.checked) (X := (fun w (_ : Array Value) => laidMetH Tryd.prog lPow w)) (fun _ _ _ hh h => h.of_heap hh) cOwn started (by kernel_rfl) Tryd.func6
    (ChangeSpec.witness_shaped (enc := enc) (C := Tryd.checked) (os := os) (X := (fun w (_ : Array Value) => laidMetH Tryd.prog lPow w)) false (World.doorLaid Tryd.prog 400 os) #[.int .u8 0, .slice none 0 0, .agg #[.int .u8 0, .int .i64 0, .int .i64 0, .int .i64 0]] 8 rfl (World.shaped_of_RefB (by kernel_rfl) (by kernel_rfl)) (by kernel_rfl) (by kernel_rfl) (by kernel_rfl) (door_met os _)) ?_
  intro W base args ds gs before hval0 hW _ _ hL _
  have hval : ∀ (j : Nat) t v, Tryd.f6.params[j]? = some t → args[j]? = some v → Value.okWide Tryd.prog W .any base t v := hval0
  have hW' := hW
  obtain ⟨p, q, hA0, hV, rfl, hfz, hnd⟩ := hW
  obtain ⟨rfl, rfl⟩ := trodVars_none hV
  have hA : DataW.TrodAll enc Tryd.prog W 0 (fun _ => true) true Tryd.f6.params.toList args.toList ds p := hA0
  rw [Tryd.params6] at hA hval
  obtain ⟨v0, v1, v2, d0, d1, d2, p0, p1, p2, rfl, rfl, rfl, h0, h1, h2⟩ := trodAll_three hA
  obtain ⟨m, rfl, hm⟩ := in_u8 Tryd.underlying5 (hval 0 _ _ rfl rfl) h0
  obtain ⟨l, hl, _⟩ := in_ints Tryd.underlying22 Tryd.underlying2 (by kernel_rfl) (hval 1 _ _ rfl rfl) h1
  obtain ⟨x, rfl, hx⟩ := in_act1 (hval 2 _ _ rfl rfl) h2
  refine (calls_of (wild_spec W (pow_ok hL) m hm v1 l hl x hx)).mono fun e W' ⟨he, hbl⟩ => ⟨.bool true, he, ?_⟩
  exact law_post (tb := 4) cLaid (by
    rw [Tryd.params6]
    intro t ht
    have hall : (#[5, 22, 48].toList.all fun t => Tryd.prog.readableRec t && decide (t < Tryd.prog.types.size)) = true := by kernel_rfl
    have h := List.all_eq_true.1 hall t ht
    rw [Bool.and_eq_true, decide_eq_true_eq] at h
    exact h) rfl (by kernel_rfl) Tryd.underlying4 ⟨rfl, rfl, rfl⟩ hW' hbl

theorem wild_holds : Rows.ArrayWildSaid :=
  OpenClaim.holds_of_wide 6 Tryd.f6 rfl rfl rfl rfl rfl rfl rfl ⟨rfl, rfl, rfl, rfl, rfl⟩ rfl rfl rfl rfl rfl (by kernel_rfl) Tryd.func6 (by kernel_rfl)
    (of_decide_eq_true (by kernel_rfl)) (by unfold Func.isWrapper; first | (rw [if_pos (by decide +kernel)]; kernel_rfl) | (rw [if_neg (by decide +kernel)]; exact ⟨rfl, rfl⟩))
    (fun os started H enc _ => wild_lifted os started H enc)

theorem wild_card : Rows.ArrayWildCardSaid :=
  Claim7.holds_tied_plain_at .later [] [.data] true (true, "b9530f391fc96e3f4485f1e0bb62de64e30c7b22471303385892b0e10d98af6c") false
    wild_holds (fun _ h => by cases h) (by kernel_rfl) (fun _ h => by cases h) arrayWild_row_tie rfl ⟨rfl, rfl⟩ (by kernel_rfl) rfl
    (fun f fn hf hfn => by
      obtain rfl : f = 6 := Option.some.inj ((show Tryd.prog.funcNamed Rows.arrayWildRow.func = some 6 by kernel_rfl).symm.trans hf) |>.symm
      obtain rfl : fn = Tryd.f6 := (Option.some.inj (Tryd.func6.symm.trans hfn)).symm
      exact ⟨by kernel_rfl, fun j t ht => by
        rw [Tryd.params6] at ht
        have hm : t ∈ [5, 22, 48] := by simpa using Array.mem_of_getElem? ht
        have hall : ([5, 22, 48].all fun u => !Tryd.prog.wantsStandIn u) = true := by kernel_rfl
        exact (show Tryd.prog.wantsStandIn t = false by simpa using List.all_eq_true.1 hall t hm)⟩)
    (by kernel_rfl)
#print axioms wild_card
end Go.Proofs.YtilnknokgflkjaaDoor

