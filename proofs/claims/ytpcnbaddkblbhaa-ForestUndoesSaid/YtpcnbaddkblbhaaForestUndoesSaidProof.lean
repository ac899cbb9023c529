import Derived.Test.YtpcnbaddkblbhaaPart5
import Derived.Test.YtpcnbaddkblbhaaPart6
/- For every number of nodes, every list of calls and every list of pairs the Go function ForestUndoes of package simulcastlaw41 returns true, and its arguments read afterwards as they read before: undoing any unions in reverse order restores the representatives and sizes that preceded each of them, with elements created in between. -/
/- The row of ForestUndoes. -/
namespace Go.Proofs.Ytpcnbaddkblbhaa
open Go.Vc Sim Go.ChangeShapes Go.WideShapes Go.RowKit
set_option maxRecDepth 100000
theorem in_pair {H : Type} {enc : TypeId × Value → H} {w : World} {base : Nat} {spare : Nat → Bool} {held : Bool} {n : Nat} {cs : List Value} {y : DataW H × List MemPlace}
    (h : DataW.trod enc Try.prog w base spare held n 55 cs = some y) : ∃ x : Int × Int, (u8P x.1 ∧ u8P x.2) ∧ cs = encP2 x := by
  obtain ⟨xs, n', _, _, hlen, hxl, hf⟩ := DataW.trod_array Try.underlying55 h
  have c1 : Try.prog.cellsOf 5 = 1 := by kernel_rfl
  have c2 : Try.prog.cellsOf 55 = 2 := by kernel_rfl
  rw [c2] at hlen
  have f0 := hf 0 (by decide)
  have f1 := hf 1 (by decide)
  rw [c1] at f0 f1
  match cs, hlen with
  | [a0, a1], _ =>
    match xs, hxl with
    | [y0, y1], _ =>
      obtain ⟨k0, e0, _, w0⟩ := DataW.trod_int Try.underlying5 (show DataW.trod _ _ _ _ _ _ n' _ [a0] = some y0 from f0)
      obtain ⟨k1, e1, _, w1⟩ := DataW.trod_int Try.underlying5 (show DataW.trod _ _ _ _ _ _ n' _ [a1] = some y1 from f1)
      simp only [List.cons.injEq, and_true] at e0 e1
      subst e0; subst e1
      exact ⟨(k0, k1), ⟨wf_u8 w0, wf_u8 w1⟩, rfl⟩
theorem in_pairs {H : Type} {enc : TypeId × Value → H} {w : World} {base : Nat} {spare : Nat → Bool} {held : Bool} {r : Reach} {b0 : Nat} {v : Value} {d : DataW H} {ps : List MemPlace}
    (hval : Value.okWide Try.prog w r b0 40 v) (h : DataW.Trod enc Try.prog w base spare held 40 v d ps) : ∃ l, InSl w encP2 2 v l ∧ ∀ x ∈ l, u8P x.1 ∧ u8P x.2 :=
  in_slice encP2 (fun x => u8P x.1 ∧ u8P x.2) Try.underlying40 (by kernel_rfl) (by decide) hval (fun n cs y hy => in_pair hy) h
theorem forestUndoes_lifted (os : Os) (started : os.Started) (H : Type) (enc : TypeId × Value → H) :
    ReturnsInHanded {} Try.checked os 4 .any (Rows.forestUndoesSpec.pre6 enc Try.prog Try.f4 [] false) (Rows.forestUndoesSpec.post enc Try.prog Try.f4 false true false false) := by
  refine returnsInHanded_of_change (C := Try.checked) cOwn started (by kernel_rfl) Try.func4
    (ChangeSpec.witness6 (enc := enc) (C := Try.checked) false ⟨#[], #[.int .u8 0, .slice none 0 0, .slice none 0 0], []⟩ 8 (by kernel_rfl) (by kernel_rfl) (by kernel_rfl) (by kernel_rfl)) ?_
  intro W base args ds gs before hval0 hW _ _
  have hval : ∀ (j : Nat) t v, Try.f4.params[j]? = some t → args[j]? = some v → Value.okWide Try.prog W .any base t v := hval0
  have hW' := hW
  obtain ⟨p, q, hA0, hV, rfl, hfz, hnd⟩ := hW
  obtain ⟨rfl, rfl⟩ := trodVars_none hV
  have hA : DataW.TrodAll enc Try.prog W 0 (fun _ => true) true Try.f4.params.toList args.toList ds p := hA0
  rw [Try.params4] at hA hval
  obtain ⟨v0, v1, v2, d0, d1, d2, p0, p1, p2, rfl, rfl, rfl, h0, h1, h2⟩ := trodAll_three hA
  obtain ⟨m, rfl, hm⟩ := in_u8 Try.underlying5 (hval 0 _ _ rfl rfl) h0
  obtain ⟨l, hl, hok⟩ := in_calls (hval 1 _ _ rfl rfl) h1
  obtain ⟨pr, hpr, hpok⟩ := in_pairs (hval 2 _ _ rfl rfl) h2
  refine (calls_of (undoes_spec W m hm v1 l hl hok v2 pr hpr hpok)).mono fun e W' ⟨he, hbl⟩ => ⟨.bool true, he, ?_⟩
  exact law_post (tb := 4) cLaid (by
    rw [Try.params4]
    intro t ht
    have hall : (#[5, 22, 40].toList.all fun t => Try.prog.readableRec t && decide (t < Try.prog.types.size)) = true := by kernel_rfl
    have h := List.all_eq_true.1 hall t ht
    rw [Bool.and_eq_true, decide_eq_true_eq] at h
    exact h) rfl (by kernel_rfl) Try.underlying4 ⟨rfl, rfl, rfl⟩ hW' hbl

theorem forestUndoes_holds : Rows.ForestUndoesSaid :=
  OpenClaim.holds_of_wide 4 Try.f4 rfl rfl rfl rfl rfl rfl rfl ⟨rfl, rfl, rfl, rfl, rfl⟩ rfl rfl rfl rfl rfl (by kernel_rfl) Try.func4 (by kernel_rfl)
    (of_decide_eq_true (by kernel_rfl)) (by unfold Func.isWrapper; first | (rw [if_pos (by decide +kernel)]; kernel_rfl) | (rw [if_neg (by decide +kernel)]; exact ⟨rfl, rfl⟩))
    (fun os started H enc _ => forestUndoes_lifted os started H enc)
#print axioms forestUndoes_holds
end Go.Proofs.Ytpcnbaddkblbhaa

