import Derived.Test.YtilnknokgflkjaaDoorPart1
import Derived.Test.YtilnknokgflkjaaDoorKit
/- Lemmas and walks for the claims of this seat (own work): Nw2 Pl0 Pl1 Pl2 Ar0 Ar1 Ar2 Ar3 Ar4. -/
/- The walk of space.New. -/
namespace Go.Proofs.YtilnknokgflkjaaDoor
open Go.Vc Sim
set_option maxHeartbeats 4000000

def cnt : Nat → List Nat → Nat
  | 0, _ => 0
  | n + 1, s => cnt n s + if n ∈ s then 0 else 1
theorem cnt_more (q : Nat) (s : List Nat) (hs : q ∉ s) : ∀ n, (n ≤ q → cnt n (s ++ [q]) = cnt n s) ∧ (q < n → cnt n (s ++ [q]) + 1 = cnt n s)
  | 0 => ⟨fun _ => rfl, fun h => absurd h (by omega)⟩
  | n + 1 => by
    obtain ⟨h1, h2⟩ := cnt_more q s hs n
    simp only [cnt]
    refine ⟨fun h => ?_, fun h => ?_⟩
    · have hne : n ≠ q := by omega
      rw [h1 (by omega)]; simp [hne]
    · by_cases e : q = n
      · subst e; rw [h1 (Nat.le_refl _)]; simp [hs]
      · have := h2 (by omega)
        have e2 : (n ∈ s ++ [q]) = (n ∈ s) := by simp; intro h; omega
        simp only [e2]; omega

theorem new_spec (w0 : World) (kb : Nat) (kn : List (Int × Wd)) (hkn : ∀ (q : Nat) a w, kn[q]? = some (a, w) → lookW kn a = some w ∧ w.ref = 0) :
    Vc.Fn PP w0 [] 9 [.map (some kb)] [pt kb (mapI (knM kn))]
      (fun v Γ => ∃ p kn', v = spP p ∧ Γ = [SpaceA p ⟨kn', [], [], 0, false⟩] ∧ ∀ a, lookW kn' a = lookW kn a) := by
  refine fn_of_run en9 fn9 rfl rfl rfl ?_ -- @@FN 9
  repeat (first | refine run_seq ?_ | refine run_block ?_ | refine run_skip ?_ | refine run_inBlock ?_)
  first | refine run_region (by kernel_rfl) ?_ | refine run_drawA PP_mixed (by kernel_rfl) (by kernel_rfl) ?_
  repeat' (refine reg_cons rfl ?_; first
        | ((with_reducible refine tag_move ?_); refine reg_pure rfl ?_)
        | ((with_reducible refine tag_assign ?_); refine reg_pure rfl ?_)
        | ((with_reducible refine tag_load ?_); first | refine reg_load_sh 0 rfl rfl rfl ?_ | refine reg_load_sh 1 rfl rfl rfl ?_ | refine reg_load_sh 2 rfl rfl rfl ?_ | refine reg_load_sh 3 rfl rfl rfl ?_ | refine reg_load_sh 4 rfl rfl rfl ?_ | refine reg_load_sh 5 rfl rfl rfl ?_ | refine reg_load_pt 0 rfl rfl rfl ?_ | refine reg_load_pt 1 rfl rfl rfl ?_ | refine reg_load_pt 2 rfl rfl rfl ?_ | refine reg_load_pt 3 rfl rfl rfl ?_ | refine reg_load_pt 4 rfl rfl rfl ?_ | refine reg_load_pt 5 rfl rfl rfl ?_)
        | ((with_reducible refine tag_field ?_); refine reg_field rfl ?_)
        | ((with_reducible refine tag_extract ?_); refine reg_pure rfl ?_)
        | ((with_reducible refine tag_bin ?_); first | refine reg_eql rfl rfl ?_ | refine reg_eq_nil rfl rfl ?_ | refine reg_eqB rfl rfl ?_)
        | ((with_reducible refine tag_store ?_); first | refine reg_store 0 rfl rfl rfl rfl rfl rfl rfl ?_ | refine reg_store 1 rfl rfl rfl rfl rfl rfl rfl ?_ | refine reg_store 2 rfl rfl rfl rfl rfl rfl rfl ?_ | refine reg_store 3 rfl rfl rfl rfl rfl rfl rfl ?_ | refine reg_store 4 rfl rfl rfl rfl rfl rfl rfl ?_ | refine reg_store 5 rfl rfl rfl rfl rfl rfl rfl ?_)
        | ((with_reducible refine tag_nilc ?_); refine reg_pure rfl ?_)
        | ((with_reducible refine tag_box ?_); first | refine reg_box (cs := [_]) rfl (fun nb => ?_) | refine reg_box (cs := [_, _]) rfl (fun nb => ?_) | refine reg_box (cs := [_, _, _]) rfl (fun nb => ?_) | refine reg_box (cs := [_, _, _, _]) rfl (fun nb => ?_) | refine reg_box (cs := [_, _, _, _, _]) rfl (fun nb => ?_) | refine reg_box (cs := [_, _, _, _, _, _]) rfl (fun nb => ?_) | refine reg_box (cs := [_, _, _, _, _, _, _]) rfl (fun nb => ?_) | refine reg_box (cs := [_, _, _, _, _, _, _, _]) rfl (fun nb => ?_))
        | ((with_reducible refine tag_alloc ?_); refine reg_alloc (fun nb => ?_))
        | refine reg_makeMap (fun nb => ?_)
        | refine reg_build rfl ?_)
  all_goals refine reg_nil ?_
  all_goals repeat (first | refine run_seq ?_ | refine run_block ?_ | refine run_skip ?_ | refine run_inBlock ?_)
  repeat (first | refine run_seq ?_ | refine run_block ?_ | refine run_skip ?_ | refine run_inBlock ?_)
  first | refine run_region (by kernel_rfl) ?_ | refine run_drawA PP_mixed (by kernel_rfl) (by kernel_rfl) ?_
  repeat' (refine reg_cons rfl ?_; first
        | ((with_reducible refine tag_move ?_); refine reg_pure rfl ?_)
        | ((with_reducible refine tag_assign ?_); refine reg_pure rfl ?_)
        | ((with_reducible refine tag_load ?_); first | refine reg_load_sh 0 rfl rfl rfl ?_ | refine reg_load_sh 1 rfl rfl rfl ?_ | refine reg_load_sh 2 rfl rfl rfl ?_ | refine reg_load_sh 3 rfl rfl rfl ?_ | refine reg_load_sh 4 rfl rfl rfl ?_ | refine reg_load_sh 5 rfl rfl rfl ?_ | refine reg_load_pt 0 rfl rfl rfl ?_ | refine reg_load_pt 1 rfl rfl rfl ?_ | refine reg_load_pt 2 rfl rfl rfl ?_ | refine reg_load_pt 3 rfl rfl rfl ?_ | refine reg_load_pt 4 rfl rfl rfl ?_ | refine reg_load_pt 5 rfl rfl rfl ?_)
        | ((with_reducible refine tag_field ?_); refine reg_field rfl ?_)
        | ((with_reducible refine tag_extract ?_); refine reg_pure rfl ?_)
        | ((with_reducible refine tag_bin ?_); first | refine reg_eql rfl rfl ?_ | refine reg_eq_nil rfl rfl ?_ | refine reg_eqB rfl rfl ?_)
        | ((with_reducible refine tag_store ?_); first | refine reg_store 0 rfl rfl rfl rfl rfl rfl rfl ?_ | refine reg_store 1 rfl rfl rfl rfl rfl rfl rfl ?_ | refine reg_store 2 rfl rfl rfl rfl rfl rfl rfl ?_ | refine reg_store 3 rfl rfl rfl rfl rfl rfl rfl ?_ | refine reg_store 4 rfl rfl rfl rfl rfl rfl rfl ?_ | refine reg_store 5 rfl rfl rfl rfl rfl rfl rfl ?_)
        | ((with_reducible refine tag_nilc ?_); refine reg_pure rfl ?_)
        | ((with_reducible refine tag_box ?_); first | refine reg_box (cs := [_]) rfl (fun nb => ?_) | refine reg_box (cs := [_, _]) rfl (fun nb => ?_) | refine reg_box (cs := [_, _, _]) rfl (fun nb => ?_) | refine reg_box (cs := [_, _, _, _]) rfl (fun nb => ?_) | refine reg_box (cs := [_, _, _, _, _]) rfl (fun nb => ?_) | refine reg_box (cs := [_, _, _, _, _, _]) rfl (fun nb => ?_) | refine reg_box (cs := [_, _, _, _, _, _, _]) rfl (fun nb => ?_) | refine reg_box (cs := [_, _, _, _, _, _, _, _]) rfl (fun nb => ?_))
        | ((with_reducible refine tag_alloc ?_); refine reg_alloc (fun nb => ?_))
        | refine reg_makeMap (fun nb => ?_)
        | refine reg_build rfl ?_)
  all_goals refine reg_nil ?_
  all_goals repeat (first | refine run_seq ?_ | refine run_block ?_ | refine run_skip ?_ | refine run_inBlock ?_)
  rename_i m1 m2
  revert nb; intro p
  refine run_share_keep [3] rfl ?_
  repeat (first | refine run_seq ?_ | refine run_block ?_ | refine run_skip ?_ | refine run_inBlock ?_)
  first | refine run_region (by kernel_rfl) ?_ | refine run_drawA PP_mixed (by kernel_rfl) (by kernel_rfl) ?_
  repeat' (refine reg_cons rfl ?_; first
        | refine reg_range 0 rfl rfl (fun nb => ?_)
        | ((with_reducible refine tag_move ?_); refine reg_pure rfl ?_)
        | ((with_reducible refine tag_assign ?_); refine reg_pure rfl ?_)
        | ((with_reducible refine tag_load ?_); first | refine reg_load_sh 0 rfl rfl rfl ?_ | refine reg_load_sh 1 rfl rfl rfl ?_ | refine reg_load_sh 2 rfl rfl rfl ?_ | refine reg_load_sh 3 rfl rfl rfl ?_ | refine reg_load_sh 4 rfl rfl rfl ?_ | refine reg_load_sh 5 rfl rfl rfl ?_ | refine reg_load_pt 0 rfl rfl rfl ?_ | refine reg_load_pt 1 rfl rfl rfl ?_ | refine reg_load_pt 2 rfl rfl rfl ?_ | refine reg_load_pt 3 rfl rfl rfl ?_ | refine reg_load_pt 4 rfl rfl rfl ?_ | refine reg_load_pt 5 rfl rfl rfl ?_)
        | ((with_reducible refine tag_field ?_); refine reg_field rfl ?_)
        | ((with_reducible refine tag_extract ?_); refine reg_pure rfl ?_)
        | ((with_reducible refine tag_bin ?_); first | refine reg_eql rfl rfl ?_ | refine reg_eq_nil rfl rfl ?_ | refine reg_eqB rfl rfl ?_)
        | ((with_reducible refine tag_store ?_); first | refine reg_store 0 rfl rfl rfl rfl rfl rfl rfl ?_ | refine reg_store 1 rfl rfl rfl rfl rfl rfl rfl ?_ | refine reg_store 2 rfl rfl rfl rfl rfl rfl rfl ?_ | refine reg_store 3 rfl rfl rfl rfl rfl rfl rfl ?_ | refine reg_store 4 rfl rfl rfl rfl rfl rfl rfl ?_ | refine reg_store 5 rfl rfl rfl rfl rfl rfl rfl ?_)
        | ((with_reducible refine tag_nilc ?_); refine reg_pure rfl ?_)
        | ((with_reducible refine tag_box ?_); first | refine reg_box (cs := [_]) rfl (fun nb => ?_) | refine reg_box (cs := [_, _]) rfl (fun nb => ?_) | refine reg_box (cs := [_, _, _]) rfl (fun nb => ?_) | refine reg_box (cs := [_, _, _, _]) rfl (fun nb => ?_) | refine reg_box (cs := [_, _, _, _, _]) rfl (fun nb => ?_) | refine reg_box (cs := [_, _, _, _, _, _]) rfl (fun nb => ?_) | refine reg_box (cs := [_, _, _, _, _, _, _]) rfl (fun nb => ?_) | refine reg_box (cs := [_, _, _, _, _, _, _, _]) rfl (fun nb => ?_))
        | ((with_reducible refine tag_alloc ?_); refine reg_alloc (fun nb => ?_))
        | refine reg_makeMap (fun nb => ?_)
        | refine reg_build rfl ?_)
  all_goals refine reg_nil ?_
  all_goals repeat (first | refine run_seq ?_ | refine run_block ?_ | refine run_skip ?_ | refine run_inBlock ?_)
  revert nb; intro it
  refine run_loop (S := List (Int × Wd) × List Nat) (fun _ => [(3, spP p), (11, .pointer (some ⟨it, 0, none⟩))])
    (fun st Γ => Γ = [pt kb (mapI (knM kn)), pt m1 (mapI (knM st.1)), pt m2 (mapI []), pt it (iterI kb (knM kn).length st.2 (knM kn).length)] ∧ (∀ q ∈ st.2, ∀ a w, kn[q]? = some (a, w) → lookW st.1 a = some w) ∧ (∀ a w, lookW st.1 a = some w → lookW kn a = some w))
    (fun st => cnt kn.length st.2) ([], []) ⟨rfl, rfl, trivial⟩ ⟨rfl, by simp, by simp [lookW]⟩ ?_
  rintro ⟨kn', seen⟩ Γ junk ⟨rfl, h1, h2⟩
  dsimp only at h1 h2 ⊢
  repeat (first | refine run_seq ?_ | refine run_block ?_ | refine run_skip ?_ | refine run_inBlock ?_ | refine run_inLoop ?_)
  refine run_region (by kernel_rfl) ?_
  refine reg_cons rfl ?_
  refine reg_next 3 0 rfl rfl (pt_know 0 rfl) rfl (fun _ => rfl) (fun hall => ?_) (fun q e hq hns => ?_)
  · repeat' (first
      | refine run_seq ?_
      | refine run_region (by kernel_rfl) ?_
      | refine run_drawA PP_mixed (by kernel_rfl) (by kernel_rfl) ?_
      | refine run_skip ?_
      | refine run_block ?_
      | refine run_inBlock ?_
      | refine run_inLoop ?_
      | refine run_exit rfl ?_
      | (refine reg_cons rfl ?_; first
          | ((with_reducible refine tag_move ?_); refine reg_pure rfl ?_)
          | ((with_reducible refine tag_assign ?_); refine reg_pure rfl ?_)
          | ((with_reducible refine tag_load ?_); first | refine reg_load_sh 0 rfl rfl rfl ?_ | refine reg_load_sh 1 rfl rfl rfl ?_ | refine reg_load_sh 2 rfl rfl rfl ?_ | refine reg_load_sh 3 rfl rfl rfl ?_ | refine reg_load_sh 4 rfl rfl rfl ?_ | refine reg_load_sh 5 rfl rfl rfl ?_ | refine reg_load_pt 0 rfl rfl rfl ?_ | refine reg_load_pt 1 rfl rfl rfl ?_ | refine reg_load_pt 2 rfl rfl rfl ?_ | refine reg_load_pt 3 rfl rfl rfl ?_ | refine reg_load_pt 4 rfl rfl rfl ?_ | refine reg_load_pt 5 rfl rfl rfl ?_)
          | ((with_reducible refine tag_field ?_); refine reg_field rfl ?_)
          | ((with_reducible refine tag_extract ?_); refine reg_pure rfl ?_)
          | ((with_reducible refine tag_bin ?_); first | refine reg_eql rfl rfl ?_ | refine reg_eq_nil rfl rfl ?_ | refine reg_eqB rfl rfl ?_)
          | ((with_reducible refine tag_store ?_); first | refine reg_store 0 rfl rfl rfl rfl rfl rfl rfl ?_ | refine reg_store 1 rfl rfl rfl rfl rfl rfl rfl ?_ | refine reg_store 2 rfl rfl rfl rfl rfl rfl rfl ?_ | refine reg_store 3 rfl rfl rfl rfl rfl rfl rfl ?_ | refine reg_store 4 rfl rfl rfl rfl rfl rfl rfl ?_ | refine reg_store 5 rfl rfl rfl rfl rfl rfl rfl ?_)
          | ((with_reducible refine tag_nilc ?_); refine reg_pure rfl ?_)
          | ((with_reducible refine tag_box ?_); first | refine reg_box (cs := [_]) rfl (fun nb => ?_) | refine reg_box (cs := [_, _]) rfl (fun nb => ?_) | refine reg_box (cs := [_, _, _]) rfl (fun nb => ?_) | refine reg_box (cs := [_, _, _, _]) rfl (fun nb => ?_) | refine reg_box (cs := [_, _, _, _, _]) rfl (fun nb => ?_) | refine reg_box (cs := [_, _, _, _, _, _]) rfl (fun nb => ?_) | refine reg_box (cs := [_, _, _, _, _, _, _]) rfl (fun nb => ?_) | refine reg_box (cs := [_, _, _, _, _, _, _, _]) rfl (fun nb => ?_))
          | ((with_reducible refine tag_alloc ?_); refine reg_alloc (fun nb => ?_))
          | refine reg_makeMap (fun nb => ?_)
          | refine reg_build rfl ?_)
      | refine reg_nil ?_
      | refine run_condT rfl ?_
      | refine run_condF rfl ?_)
    refine cut_exit rfl rfl ?_
    repeat' (first
      | refine run_seq ?_
      | refine run_region (by kernel_rfl) ?_
      | refine run_drawA PP_mixed (by kernel_rfl) (by kernel_rfl) ?_
      | refine run_skip ?_
      | refine run_block ?_
      | refine run_inBlock ?_
      | refine run_inLoop ?_
      | refine run_exit rfl ?_
      | (refine reg_cons rfl ?_; first
          | ((with_reducible refine tag_move ?_); refine reg_pure rfl ?_)
          | ((with_reducible refine tag_assign ?_); refine reg_pure rfl ?_)
          | ((with_reducible refine tag_load ?_); first | refine reg_load_sh 0 rfl rfl rfl ?_ | refine reg_load_sh 1 rfl rfl rfl ?_ | refine reg_load_sh 2 rfl rfl rfl ?_ | refine reg_load_sh 3 rfl rfl rfl ?_ | refine reg_load_sh 4 rfl rfl rfl ?_ | refine reg_load_sh 5 rfl rfl rfl ?_ | refine reg_load_pt 0 rfl rfl rfl ?_ | refine reg_load_pt 1 rfl rfl rfl ?_ | refine reg_load_pt 2 rfl rfl rfl ?_ | refine reg_load_pt 3 rfl rfl rfl ?_ | refine reg_load_pt 4 rfl rfl rfl ?_ | refine reg_load_pt 5 rfl rfl rfl ?_)
          | ((with_reducible refine tag_field ?_); refine reg_field rfl ?_)
          | ((with_reducible refine tag_extract ?_); refine reg_pure rfl ?_)
          | ((with_reducible refine tag_bin ?_); first | refine reg_eql rfl rfl ?_ | refine reg_eq_nil rfl rfl ?_ | refine reg_eqB rfl rfl ?_)
          | ((with_reducible refine tag_store ?_); first | refine reg_store 0 rfl rfl rfl rfl rfl rfl rfl ?_ | refine reg_store 1 rfl rfl rfl rfl rfl rfl rfl ?_ | refine reg_store 2 rfl rfl rfl rfl rfl rfl rfl ?_ | refine reg_store 3 rfl rfl rfl rfl rfl rfl rfl ?_ | refine reg_store 4 rfl rfl rfl rfl rfl rfl rfl ?_ | refine reg_store 5 rfl rfl rfl rfl rfl rfl rfl ?_)
          | ((with_reducible refine tag_nilc ?_); refine reg_pure rfl ?_)
          | ((with_reducible refine tag_box ?_); first | refine reg_box (cs := [_]) rfl (fun nb => ?_) | refine reg_box (cs := [_, _]) rfl (fun nb => ?_) | refine reg_box (cs := [_, _, _]) rfl (fun nb => ?_) | refine reg_box (cs := [_, _, _, _]) rfl (fun nb => ?_) | refine reg_box (cs := [_, _, _, _, _]) rfl (fun nb => ?_) | refine reg_box (cs := [_, _, _, _, _, _]) rfl (fun nb => ?_) | refine reg_box (cs := [_, _, _, _, _, _, _]) rfl (fun nb => ?_) | refine reg_box (cs := [_, _, _, _, _, _, _, _]) rfl (fun nb => ?_))
          | ((with_reducible refine tag_alloc ?_); refine reg_alloc (fun nb => ?_))
          | refine reg_makeMap (fun nb => ?_)
          | refine reg_build rfl ?_)
      | refine reg_nil ?_
      | refine run_condT rfl ?_
      | refine run_condF rfl ?_)
    refine run_nilslice 103 2 ?_
    refine run_ret (leaves_nil (ends_close1 (A := SpaceA p ⟨kn', [], [], 0, false⟩) [5, 1, 1, 2] rfl (fun _ h => ⟨(m1, m2, none, 0), h⟩) (ends_one rfl rfl ⟨rfl, p, kn', rfl, rfl, fun a => ?_⟩)))
    cases hk : lookW kn a with
    | none =>
      cases hk' : lookW kn' a with
      | none => rfl
      | some w => have := h2 a w hk'; rw [hk] at this; cases this
    | some w =>
      obtain ⟨q, hq⟩ := lookW_mem kn a w hk
      have hql := (List.getElem?_eq_some_iff.1 hq).1
      exact h1 q (hall q (by rw [knM_length]; exact hql)) a w hq
  · rw [knM_get] at hq
    obtain ⟨⟨a, w⟩, hq2, rfl⟩ : ∃ aw, kn[q]? = some aw ∧ e = (aw.1, wordV aw.2) := by
      cases h : kn[q]? with
      | none => rw [h] at hq; cases hq
      | some aw => rw [h] at hq; exact ⟨aw, rfl, (Option.some.inj hq).symm⟩
    obtain ⟨hk1, hk2⟩ := hkn q a w hq2
    have hql := (List.getElem?_eq_some_iff.1 hq2).1
    have hq3 : (knM kn)[q]? = some (a, wordV w) := by rw [knM_get, hq2]; rfl
    repeat' (refine reg_cons rfl ?_; first
          | ((with_reducible refine tag_move ?_); refine reg_pure rfl ?_)
          | ((with_reducible refine tag_assign ?_); refine reg_pure rfl ?_)
          | ((with_reducible refine tag_load ?_); first | refine reg_load_sh 0 rfl rfl rfl ?_ | refine reg_load_sh 1 rfl rfl rfl ?_ | refine reg_load_sh 2 rfl rfl rfl ?_ | refine reg_load_sh 3 rfl rfl rfl ?_ | refine reg_load_sh 4 rfl rfl rfl ?_ | refine reg_load_sh 5 rfl rfl rfl ?_ | refine reg_load_pt 0 rfl rfl rfl ?_ | refine reg_load_pt 1 rfl rfl rfl ?_ | refine reg_load_pt 2 rfl rfl rfl ?_ | refine reg_load_pt 3 rfl rfl rfl ?_ | refine reg_load_pt 4 rfl rfl rfl ?_ | refine reg_load_pt 5 rfl rfl rfl ?_)
          | ((with_reducible refine tag_field ?_); refine reg_field rfl ?_)
          | ((with_reducible refine tag_extract ?_); refine reg_pure rfl ?_)
          | ((with_reducible refine tag_bin ?_); first | refine reg_eql rfl rfl ?_ | refine reg_eq_nil rfl rfl ?_ | refine reg_eqB rfl rfl ?_)
          | ((with_reducible refine tag_store ?_); first | refine reg_store 0 rfl rfl rfl rfl rfl rfl rfl ?_ | refine reg_store 1 rfl rfl rfl rfl rfl rfl rfl ?_ | refine reg_store 2 rfl rfl rfl rfl rfl rfl rfl ?_ | refine reg_store 3 rfl rfl rfl rfl rfl rfl rfl ?_ | refine reg_store 4 rfl rfl rfl rfl rfl rfl rfl ?_ | refine reg_store 5 rfl rfl rfl rfl rfl rfl rfl ?_)
          | ((with_reducible refine tag_nilc ?_); refine reg_pure rfl ?_)
          | ((with_reducible refine tag_box ?_); first | refine reg_box (cs := [_]) rfl (fun nb => ?_) | refine reg_box (cs := [_, _]) rfl (fun nb => ?_) | refine reg_box (cs := [_, _, _]) rfl (fun nb => ?_) | refine reg_box (cs := [_, _, _, _]) rfl (fun nb => ?_) | refine reg_box (cs := [_, _, _, _, _]) rfl (fun nb => ?_) | refine reg_box (cs := [_, _, _, _, _, _]) rfl (fun nb => ?_) | refine reg_box (cs := [_, _, _, _, _, _, _]) rfl (fun nb => ?_) | refine reg_box (cs := [_, _, _, _, _, _, _, _]) rfl (fun nb => ?_))
          | ((with_reducible refine tag_alloc ?_); refine reg_alloc (fun nb => ?_))
          | refine reg_makeMap (fun nb => ?_)
          | refine reg_build rfl ?_)
    refine reg_nil ?_
    repeat (first | refine run_seq ?_ | refine run_block ?_ | refine run_skip ?_ | refine run_inBlock ?_ | refine run_inLoop ?_)
    refine run_condT rfl ?_
    repeat (first | refine run_seq ?_ | refine run_block ?_ | refine run_skip ?_ | refine run_inBlock ?_ | refine run_inLoop ?_)
    repeat (first | refine run_seq ?_ | refine run_block ?_ | refine run_skip ?_ | refine run_inBlock ?_)
    first | refine run_region (by kernel_rfl) ?_ | refine run_drawA PP_mixed (by kernel_rfl) (by kernel_rfl) ?_
    repeat' (refine reg_cons rfl ?_; first
          | refine reg_entry 3 rfl rfl (pt_know 0 rfl) hq3 ?_
          | ((with_reducible refine tag_move ?_); refine reg_pure rfl ?_)
          | ((with_reducible refine tag_assign ?_); refine reg_pure rfl ?_)
          | ((with_reducible refine tag_load ?_); first | refine reg_load_sh 0 rfl rfl rfl ?_ | refine reg_load_sh 1 rfl rfl rfl ?_ | refine reg_load_sh 2 rfl rfl rfl ?_ | refine reg_load_sh 3 rfl rfl rfl ?_ | refine reg_load_sh 4 rfl rfl rfl ?_ | refine reg_load_sh 5 rfl rfl rfl ?_ | refine reg_load_pt 0 rfl rfl rfl ?_ | refine reg_load_pt 1 rfl rfl rfl ?_ | refine reg_load_pt 2 rfl rfl rfl ?_ | refine reg_load_pt 3 rfl rfl rfl ?_ | refine reg_load_pt 4 rfl rfl rfl ?_ | refine reg_load_pt 5 rfl rfl rfl ?_)
          | ((with_reducible refine tag_field ?_); refine reg_field rfl ?_)
          | ((with_reducible refine tag_extract ?_); refine reg_pure rfl ?_)
          | ((with_reducible refine tag_bin ?_); first | refine reg_eql rfl rfl ?_ | refine reg_eq_nil rfl rfl ?_ | refine reg_eqB rfl rfl ?_)
          | ((with_reducible refine tag_store ?_); first | refine reg_store 0 rfl rfl rfl rfl rfl rfl rfl ?_ | refine reg_store 1 rfl rfl rfl rfl rfl rfl rfl ?_ | refine reg_store 2 rfl rfl rfl rfl rfl rfl rfl ?_ | refine reg_store 3 rfl rfl rfl rfl rfl rfl rfl ?_ | refine reg_store 4 rfl rfl rfl rfl rfl rfl rfl ?_ | refine reg_store 5 rfl rfl rfl rfl rfl rfl rfl ?_)
          | ((with_reducible refine tag_nilc ?_); refine reg_pure rfl ?_)
          | ((with_reducible refine tag_box ?_); first | refine reg_box (cs := [_]) rfl (fun nb => ?_) | refine reg_box (cs := [_, _]) rfl (fun nb => ?_) | refine reg_box (cs := [_, _, _]) rfl (fun nb => ?_) | refine reg_box (cs := [_, _, _, _]) rfl (fun nb => ?_) | refine reg_box (cs := [_, _, _, _, _]) rfl (fun nb => ?_) | refine reg_box (cs := [_, _, _, _, _, _]) rfl (fun nb => ?_) | refine reg_box (cs := [_, _, _, _, _, _, _]) rfl (fun nb => ?_) | refine reg_box (cs := [_, _, _, _, _, _, _, _]) rfl (fun nb => ?_))
          | ((with_reducible refine tag_alloc ?_); refine reg_alloc (fun nb => ?_))
          | refine reg_makeMap (fun nb => ?_)
          | refine reg_build rfl ?_)
    all_goals refine reg_nil ?_
    all_goals repeat (first | refine run_seq ?_ | refine run_block ?_ | refine run_skip ?_ | refine run_inBlock ?_)
    refine run_share [4] rfl ?_
    repeat (first | refine run_seq ?_ | refine run_block ?_ | refine run_skip ?_ | refine run_inBlock ?_)
    first | refine run_region (by kernel_rfl) ?_ | refine run_drawA PP_mixed (by kernel_rfl) (by kernel_rfl) ?_
    repeat' (refine reg_cons rfl ?_; first
          | ((with_reducible refine tag_move ?_); refine reg_pure rfl ?_)
          | ((with_reducible refine tag_assign ?_); refine reg_pure rfl ?_)
          | ((with_reducible refine tag_load ?_); first | refine reg_load_sh 0 rfl rfl rfl ?_ | refine reg_load_sh 1 rfl rfl rfl ?_ | refine reg_load_sh 2 rfl rfl rfl ?_ | refine reg_load_sh 3 rfl rfl rfl ?_ | refine reg_load_sh 4 rfl rfl rfl ?_ | refine reg_load_sh 5 rfl rfl rfl ?_ | refine reg_load_pt 0 rfl rfl rfl ?_ | refine reg_load_pt 1 rfl rfl rfl ?_ | refine reg_load_pt 2 rfl rfl rfl ?_ | refine reg_load_pt 3 rfl rfl rfl ?_ | refine reg_load_pt 4 rfl rfl rfl ?_ | refine reg_load_pt 5 rfl rfl rfl ?_)
          | ((with_reducible refine tag_field ?_); refine reg_field rfl ?_)
          | ((with_reducible refine tag_extract ?_); refine reg_pure rfl ?_)
          | ((with_reducible refine tag_bin ?_); first | refine reg_eql rfl rfl ?_ | refine reg_eq_nil rfl rfl ?_ | refine reg_eqB rfl rfl ?_)
          | ((with_reducible refine tag_store ?_); first | refine reg_store 0 rfl rfl rfl rfl rfl rfl rfl ?_ | refine reg_store 1 rfl rfl rfl rfl rfl rfl rfl ?_ | refine reg_store 2 rfl rfl rfl rfl rfl rfl rfl ?_ | refine reg_store 3 rfl rfl rfl rfl rfl rfl rfl ?_ | refine reg_store 4 rfl rfl rfl rfl rfl rfl rfl ?_ | refine reg_store 5 rfl rfl rfl rfl rfl rfl rfl ?_)
          | ((with_reducible refine tag_nilc ?_); refine reg_pure rfl ?_)
          | ((with_reducible refine tag_box ?_); first | refine reg_box (cs := [_]) rfl (fun nb => ?_) | refine reg_box (cs := [_, _]) rfl (fun nb => ?_) | refine reg_box (cs := [_, _, _]) rfl (fun nb => ?_) | refine reg_box (cs := [_, _, _, _]) rfl (fun nb => ?_) | refine reg_box (cs := [_, _, _, _, _]) rfl (fun nb => ?_) | refine reg_box (cs := [_, _, _, _, _, _]) rfl (fun nb => ?_) | refine reg_box (cs := [_, _, _, _, _, _, _]) rfl (fun nb => ?_) | refine reg_box (cs := [_, _, _, _, _, _, _, _]) rfl (fun nb => ?_))
          | ((with_reducible refine tag_alloc ?_); refine reg_alloc (fun nb => ?_))
          | refine reg_makeMap (fun nb => ?_)
          | refine reg_build rfl ?_)
    all_goals refine reg_nil ?_
    all_goals repeat (first | refine run_seq ?_ | refine run_block ?_ | refine run_skip ?_ | refine run_inBlock ?_)
    refine run_condT (bool_eq (decide_eq_true hk2)) ?_
    repeat' (first
      | refine run_seq ?_
      | refine run_region (by kernel_rfl) ?_
      | refine run_drawA PP_mixed (by kernel_rfl) (by kernel_rfl) ?_
      | refine run_skip ?_
      | refine run_block ?_
      | refine run_inBlock ?_
      | refine run_inLoop ?_
      | refine run_exit rfl ?_
      | (refine reg_cons rfl ?_; first
          | refine reg_mapUpdate 1 rfl rfl rfl rfl rfl ?_
          | ((with_reducible refine tag_move ?_); refine reg_pure rfl ?_)
          | ((with_reducible refine tag_assign ?_); refine reg_pure rfl ?_)
          | ((with_reducible refine tag_load ?_); first | refine reg_load_sh 0 rfl rfl rfl ?_ | refine reg_load_sh 1 rfl rfl rfl ?_ | refine reg_load_sh 2 rfl rfl rfl ?_ | refine reg_load_sh 3 rfl rfl rfl ?_ | refine reg_load_sh 4 rfl rfl rfl ?_ | refine reg_load_sh 5 rfl rfl rfl ?_ | refine reg_load_pt 0 rfl rfl rfl ?_ | refine reg_load_pt 1 rfl rfl rfl ?_ | refine reg_load_pt 2 rfl rfl rfl ?_ | refine reg_load_pt 3 rfl rfl rfl ?_ | refine reg_load_pt 4 rfl rfl rfl ?_ | refine reg_load_pt 5 rfl rfl rfl ?_)
          | ((with_reducible refine tag_field ?_); refine reg_field rfl ?_)
          | ((with_reducible refine tag_extract ?_); refine reg_pure rfl ?_)
          | ((with_reducible refine tag_bin ?_); first | refine reg_eql rfl rfl ?_ | refine reg_eq_nil rfl rfl ?_ | refine reg_eqB rfl rfl ?_)
          | ((with_reducible refine tag_store ?_); first | refine reg_store 0 rfl rfl rfl rfl rfl rfl rfl ?_ | refine reg_store 1 rfl rfl rfl rfl rfl rfl rfl ?_ | refine reg_store 2 rfl rfl rfl rfl rfl rfl rfl ?_ | refine reg_store 3 rfl rfl rfl rfl rfl rfl rfl ?_ | refine reg_store 4 rfl rfl rfl rfl rfl rfl rfl ?_ | refine reg_store 5 rfl rfl rfl rfl rfl rfl rfl ?_)
          | ((with_reducible refine tag_nilc ?_); refine reg_pure rfl ?_)
          | ((with_reducible refine tag_box ?_); first | refine reg_box (cs := [_]) rfl (fun nb => ?_) | refine reg_box (cs := [_, _]) rfl (fun nb => ?_) | refine reg_box (cs := [_, _, _]) rfl (fun nb => ?_) | refine reg_box (cs := [_, _, _, _]) rfl (fun nb => ?_) | refine reg_box (cs := [_, _, _, _, _]) rfl (fun nb => ?_) | refine reg_box (cs := [_, _, _, _, _, _]) rfl (fun nb => ?_) | refine reg_box (cs := [_, _, _, _, _, _, _]) rfl (fun nb => ?_) | refine reg_box (cs := [_, _, _, _, _, _, _, _]) rfl (fun nb => ?_))
          | ((with_reducible refine tag_alloc ?_); refine reg_alloc (fun nb => ?_))
          | refine reg_makeMap (fun nb => ?_)
          | refine reg_build rfl ?_)
      | refine reg_nil ?_
      | refine run_condT rfl ?_
      | refine run_condF rfl ?_)
    refine cut_end ⟨rfl, (insW kn' a w, seen ++ [q]), ⟨rfl, rfl, trivial⟩, ⟨?_, ?_, ?_⟩, ?_⟩
    · show _ = [_, pt m1 (mapI (knM (insW kn' a w))), _, _]
      rw [← ins_knM]; rfl
    · intro q' hq' a' w' h
      rw [look_insW]
      rcases List.mem_append.1 hq' with hq' | hq'
      · have := h1 q' hq' a' w' h
        by_cases e : a = a'
        · subst e; rw [if_pos rfl]
          have := (hkn q' a w' h).1
          rw [hk1] at this; exact this
        · rw [if_neg e]; exact this
      · simp at hq'; subst hq'
        rw [hq2] at h; cases h; rw [if_pos rfl]
    · intro a' w' h
      rw [look_insW] at h
      by_cases e : a = a'
      · subst e; rw [if_pos rfl] at h; cases h; exact hk1
      · rw [if_neg e] at h; exact h2 a' w' h
    · have := (cnt_more q seen hns kn.length).2 hql
      dsimp only; omega
end Go.Proofs.YtilnknokgflkjaaDoor

/- The plain model of package pool. -/
namespace Sim
open Go Go.Vc

def Sm (s : Sp) (j : Nat) : Prop := s.puts.length + j ≤ 1099511627776
theorem Sm.mono {s : Sp} {j i : Nat} (h : Sm s j) (hi : i ≤ j) : Sm s i := by unfold Sm at *; omega
theorem reads_putsL (s : Sp) (x : Int) : (s.reads x).2.puts = s.puts := by unfold Sp.reads; split; rfl; split <;> rfl
theorem sm_get {s : Sp} {j : Nat} {a : Int} (h : Sm s j) : Sm (s.get a).2 j := by
  unfold Sm at *; simp only [Sp.get]; split <;> simpa [reads_putsL] using h
theorem sm_put {s : Sp} {j : Nat} {a v : Int} (h : Sm s (j + 1)) : Sm (s.put a v) j := by
  unfold Sm at *; simp only [Sp.put]; split
  · simp; omega
  · simp only [reads_putsL]; omega
theorem sm_back {s : Sp} {j : Nat} {m : Int} (h : Sm s j) : Sm (s.back m) j := by
  unfold Sm at *; simp only [Sp.back]; split
  · simp; omega
  · exact h

def w64 (x : Int) : Int := IntKind.i64.wrap x

structure Pl where
  root : Int
  frm : Int
  nodes : Int
def Pl.chk (P : Pl) : Int :=
  if P.root < 0 ∨ P.frm < 1 ∨ P.nodes < 0 ∨ 128 < P.nodes then 1 else if 4093 < P.root ∨ 4096 - 8 * P.nodes < P.frm then 1 else if 0 < P.nodes ∧ P.frm < P.root + 3 ∧ P.root < P.frm + 8 * P.nodes then 1 else 0
/-- A pool that is valid. -/
def Pl.Ok (P : Pl) : Prop := P.chk = 0 ∧ 0 ≤ P.root ∧ P.root ≤ 4093 ∧ 1 ≤ P.frm ∧ P.frm ≤ 4096 ∧ 0 ≤ P.nodes ∧ P.nodes ≤ 128
def Pl.node (P : Pl) (a : Int) : Bool := decide (P.frm ≤ a) && decide ((w64 (a - P.frm)).tmod 8 = 0) && decide (w64 ((w64 (a - P.frm)).tdiv 8) < P.nodes)
def Pl.idx (P : Pl) (a : Int) : Int := if P.node a then w64 ((w64 (a - P.frm)).tdiv 8) else 0
def Pl.add (P : Pl) (s : Sp) (c n : Int) : Sp := (s.get (P.root + c)).2.put (P.root + c) (w64 ((s.get (P.root + c)).1 + n))
def Pl.take (P : Pl) (s : Sp) : Int × Int × Sp :=
  if (s.get P.root).1 ≠ 0 then
    if P.node (s.get P.root).1 then
      ((s.get P.root).1, 0, P.add (((s.get P.root).2.get (s.get P.root).1).2.put P.root ((s.get P.root).2.get (s.get P.root).1).1) 2 (-1))
    else (0, 24, (s.get P.root).2)
  else
    if ((s.get P.root).2.get (P.root + 1)).1 < 0 ∨ P.nodes ≤ ((s.get P.root).2.get (P.root + 1)).1 then (0, 9, ((s.get P.root).2.get (P.root + 1)).2)
    else (P.frm + 8 * ((s.get P.root).2.get (P.root + 1)).1, 0, ((s.get P.root).2.get (P.root + 1)).2.put (P.root + 1) (((s.get P.root).2.get (P.root + 1)).1 + 1))
def Pl.give (P : Pl) (s : Sp) (a : Int) : Int × Sp :=
  if P.node a then (0, P.add (((s.get P.root).2.put a (s.get P.root).1).put P.root a) 2 1) else (1, s)
def Pl.left (P : Pl) (s : Sp) : Int × Sp :=
  (max (w64 (w64 ((s.get (P.root + 2)).1 + P.nodes) - ((s.get (P.root + 2)).2.get (P.root + 1)).1)) 0, ((s.get (P.root + 2)).2.get (P.root + 1)).2)
end Sim

/- The walks of package pool. -/
namespace Go.Proofs.YtilnknokgflkjaaDoor
open Go.Vc Sim
def poolV (P : Pl) : Value := .agg #[.int .i64 P.root, .int .i64 P.frm, .int .i64 P.nodes]
theorem getS (w0 : World) (p : Nat) (s : Sp) (x : Int) (h : Sm s 0) : FnE PP w0 [] 28 [spP p, .int .i64 x] [SpaceA p s] (.int .i64 (s.get x).1) [SpaceA p (s.get x).2] := get_spec w0 p s x h
theorem putS (w0 : World) (p : Nat) (s : Sp) (x v : Int) (h : Sm s 0) : FnE PP w0 [] 31 [spP p, .int .i64 x, .int .i64 v] [SpaceA p s] (.tuple #[]) [SpaceA p (s.put x v)] := put_spec w0 p s x v h

theorem check_spec (w0 : World) (P : Pl) (hP : P.Ok) : FnE PP w0 [] 36 [poolV P] [] (.int .i64 0) [] := by
  obtain ⟨h, _⟩ := hP
  refine fn_of_run en36 fn36 rfl rfl rfl ?_ -- @@FN 36
  repeat (first | refine run_seq ?_ | refine run_block ?_ | refine run_skip ?_ | refine run_inBlock ?_)
  first | refine run_region (by kernel_rfl) ?_ | refine run_drawA PP_mixed (by kernel_rfl) (by kernel_rfl) ?_
  repeat' (refine reg_cons rfl ?_; first
        | ((with_reducible refine tag_guard ?_); first | refine reg_guard_in rfl ?_ | refine reg_guard_out rfl ?_ | refine reg_guard_none rfl ?_ | refine reg_guard rfl rfl (fun _ => ?_) (fun _ => ?_))
        | ((with_reducible refine tag_move ?_); refine reg_pure rfl ?_)
        | ((with_reducible refine tag_assign ?_); refine reg_pure rfl ?_)
        | ((with_reducible refine tag_load ?_); first | refine reg_load_sh 0 rfl rfl rfl ?_ | refine reg_load_sh 1 rfl rfl rfl ?_ | refine reg_load_sh 2 rfl rfl rfl ?_ | refine reg_load_sh 3 rfl rfl rfl ?_ | refine reg_load_sh 4 rfl rfl rfl ?_ | refine reg_load_sh 5 rfl rfl rfl ?_ | refine reg_load_pt 0 rfl rfl rfl ?_ | refine reg_load_pt 1 rfl rfl rfl ?_ | refine reg_load_pt 2 rfl rfl rfl ?_ | refine reg_load_pt 3 rfl rfl rfl ?_ | refine reg_load_pt 4 rfl rfl rfl ?_ | refine reg_load_pt 5 rfl rfl rfl ?_)
        | ((with_reducible refine tag_field ?_); refine reg_field rfl ?_)
        | ((with_reducible refine tag_bin ?_); first | refine reg_add64 rfl rfl (by omega) ?_ | refine reg_sub64 rfl rfl (by omega) ?_ | refine reg_mul64 rfl rfl (by omega) ?_ | refine reg_lss rfl rfl ?_ | refine reg_gtr rfl rfl ?_)
        | ((with_reducible refine tag_pick ?_); first | refine reg_pickT rfl ?_ | refine reg_pickF rfl ?_ | refine reg_pick rfl rfl rfl ?_)
        | ((with_reducible refine tag_box ?_); first | refine reg_box (cs := [_]) rfl (fun nb => ?_) | refine reg_box (cs := [_, _]) rfl (fun nb => ?_) | refine reg_box (cs := [_, _, _]) rfl (fun nb => ?_) | refine reg_box (cs := [_, _, _, _]) rfl (fun nb => ?_) | refine reg_box (cs := [_, _, _, _, _]) rfl (fun nb => ?_) | refine reg_box (cs := [_, _, _, _, _, _]) rfl (fun nb => ?_) | refine reg_box (cs := [_, _, _, _, _, _, _]) rfl (fun nb => ?_) | refine reg_box (cs := [_, _, _, _, _, _, _, _]) rfl (fun nb => ?_)))
  all_goals refine reg_nil ?_
  all_goals repeat (first | refine run_seq ?_ | refine run_block ?_ | refine run_skip ?_ | refine run_inBlock ?_)
  refine run_share [0] rfl ?_
  repeat' (first
    | refine run_seq ?_
    | refine run_region (by kernel_rfl) ?_
    | refine run_drawA PP_mixed (by kernel_rfl) (by kernel_rfl) ?_
    | refine run_skip ?_
    | refine run_block ?_
    | refine run_inBlock ?_
    | refine run_inLoop ?_
    | refine run_exit rfl ?_
    | (refine reg_cons rfl ?_; first
        | ((with_reducible refine tag_guard ?_); first | refine reg_guard_in rfl ?_ | refine reg_guard_out rfl ?_ | refine reg_guard_none rfl ?_ | refine reg_guard rfl rfl (fun _ => ?_) (fun _ => ?_))
        | ((with_reducible refine tag_move ?_); refine reg_pure rfl ?_)
        | ((with_reducible refine tag_assign ?_); refine reg_pure rfl ?_)
        | ((with_reducible refine tag_load ?_); first | refine reg_load_sh 0 rfl rfl rfl ?_ | refine reg_load_sh 1 rfl rfl rfl ?_ | refine reg_load_sh 2 rfl rfl rfl ?_ | refine reg_load_sh 3 rfl rfl rfl ?_ | refine reg_load_sh 4 rfl rfl rfl ?_ | refine reg_load_sh 5 rfl rfl rfl ?_ | refine reg_load_pt 0 rfl rfl rfl ?_ | refine reg_load_pt 1 rfl rfl rfl ?_ | refine reg_load_pt 2 rfl rfl rfl ?_ | refine reg_load_pt 3 rfl rfl rfl ?_ | refine reg_load_pt 4 rfl rfl rfl ?_ | refine reg_load_pt 5 rfl rfl rfl ?_)
        | ((with_reducible refine tag_field ?_); refine reg_field rfl ?_)
        | ((with_reducible refine tag_bin ?_); first | refine reg_add64 rfl rfl (by omega) ?_ | refine reg_sub64 rfl rfl (by omega) ?_ | refine reg_mul64 rfl rfl (by omega) ?_ | refine reg_lss rfl rfl ?_ | refine reg_gtr rfl rfl ?_)
        | ((with_reducible refine tag_pick ?_); first | refine reg_pickT rfl ?_ | refine reg_pickF rfl ?_ | refine reg_pick rfl rfl rfl ?_)
        | ((with_reducible refine tag_box ?_); first | refine reg_box (cs := [_]) rfl (fun nb => ?_) | refine reg_box (cs := [_, _]) rfl (fun nb => ?_) | refine reg_box (cs := [_, _, _]) rfl (fun nb => ?_) | refine reg_box (cs := [_, _, _, _]) rfl (fun nb => ?_) | refine reg_box (cs := [_, _, _, _, _]) rfl (fun nb => ?_) | refine reg_box (cs := [_, _, _, _, _, _]) rfl (fun nb => ?_) | refine reg_box (cs := [_, _, _, _, _, _, _]) rfl (fun nb => ?_) | refine reg_box (cs := [_, _, _, _, _, _, _, _]) rfl (fun nb => ?_)))
    | refine reg_nil ?_
    | refine run_condT rfl ?_
    | refine run_condF rfl ?_
    | refine run_cond rfl (fun _ => ?_) (fun _ => ?_)
    | refine run_condV rfl (fun _ => ?_) (fun _ => ?_))
  all_goals (refine ret_tmp1 rfl ?_; refine ⟨int_eq ?_, rfl⟩)
  all_goals (unfold Pl.chk at h; split at h <;> try split at h <;> try split at h)
  all_goals omega

theorem node_spec (w0 : World) (P : Pl) (hP : P.Ok) (a : Int) : FnE PP w0 [] 46 [poolV P, .int .i64 a] [] (.tuple #[.int .i64 (P.idx a), .bool (P.node a)]) [] := by
  refine fn_of_run en46 fn46 rfl rfl rfl ?_ -- @@FN 46
  repeat (first | refine run_seq ?_ | refine run_block ?_ | refine run_skip ?_ | refine run_inBlock ?_)
  first | refine run_region (by kernel_rfl) ?_ | refine run_drawA PP_mixed (by kernel_rfl) (by kernel_rfl) ?_
  repeat' (refine reg_cons rfl ?_; first
        | ((with_reducible refine tag_guard ?_); first | refine reg_guard_in rfl ?_ | refine reg_guard_out rfl ?_ | refine reg_guard_none rfl ?_ | refine reg_guard rfl rfl (fun _ => ?_) (fun _ => ?_))
        | ((with_reducible refine tag_move ?_); refine reg_pure rfl ?_)
        | ((with_reducible refine tag_assign ?_); refine reg_pure rfl ?_)
        | ((with_reducible refine tag_load ?_); first | refine reg_load_sh 0 rfl rfl rfl ?_ | refine reg_load_sh 1 rfl rfl rfl ?_ | refine reg_load_sh 2 rfl rfl rfl ?_ | refine reg_load_sh 3 rfl rfl rfl ?_ | refine reg_load_sh 4 rfl rfl rfl ?_ | refine reg_load_sh 5 rfl rfl rfl ?_ | refine reg_load_pt 0 rfl rfl rfl ?_ | refine reg_load_pt 1 rfl rfl rfl ?_ | refine reg_load_pt 2 rfl rfl rfl ?_ | refine reg_load_pt 3 rfl rfl rfl ?_ | refine reg_load_pt 4 rfl rfl rfl ?_ | refine reg_load_pt 5 rfl rfl rfl ?_)
        | ((with_reducible refine tag_field ?_); refine reg_field rfl ?_)
        | ((with_reducible refine tag_bin ?_); first | refine reg_sub64 rfl rfl (by omega) ?_ | refine reg_neq rfl rfl ?_ | refine reg_lss rfl rfl ?_ | refine reg_geq rfl rfl ?_ | refine reg_quo64 rfl rfl (by omega) ?_ | refine reg_rem64 rfl rfl (by omega) ?_ | refine reg_ne_nil rfl rfl ?_)
        | ((with_reducible refine tag_pick ?_); first | refine reg_pickT rfl ?_ | refine reg_pickF rfl ?_ | refine reg_pick rfl rfl rfl ?_)
        | ((with_reducible refine tag_box ?_); first | refine reg_box (cs := [_]) rfl (fun nb => ?_) | refine reg_box (cs := [_, _]) rfl (fun nb => ?_) | refine reg_box (cs := [_, _, _]) rfl (fun nb => ?_) | refine reg_box (cs := [_, _, _, _]) rfl (fun nb => ?_) | refine reg_box (cs := [_, _, _, _, _]) rfl (fun nb => ?_) | refine reg_box (cs := [_, _, _, _, _, _]) rfl (fun nb => ?_) | refine reg_box (cs := [_, _, _, _, _, _, _]) rfl (fun nb => ?_) | refine reg_box (cs := [_, _, _, _, _, _, _, _]) rfl (fun nb => ?_)))
  all_goals refine reg_nil ?_
  all_goals repeat (first | refine run_seq ?_ | refine run_block ?_ | refine run_skip ?_ | refine run_inBlock ?_)
  refine run_share [0] rfl ?_
  repeat' (first
    | refine run_seq ?_
    | refine run_region (by kernel_rfl) ?_
    | refine run_drawA PP_mixed (by kernel_rfl) (by kernel_rfl) ?_
    | refine run_skip ?_
    | refine run_block ?_
    | refine run_inBlock ?_
    | refine run_inLoop ?_
    | refine run_exit rfl ?_
    | (refine reg_cons rfl ?_; first
        | refine reg_sub rfl rfl ?_
        | refine reg_rem rfl rfl (by decide) ?_
        | refine reg_quo rfl rfl (by decide) ?_
        | ((with_reducible refine tag_guard ?_); first | refine reg_guard_in rfl ?_ | refine reg_guard_out rfl ?_ | refine reg_guard_none rfl ?_ | refine reg_guard rfl rfl (fun _ => ?_) (fun _ => ?_))
        | ((with_reducible refine tag_move ?_); refine reg_pure rfl ?_)
        | ((with_reducible refine tag_assign ?_); refine reg_pure rfl ?_)
        | ((with_reducible refine tag_load ?_); first | refine reg_load_sh 0 rfl rfl rfl ?_ | refine reg_load_sh 1 rfl rfl rfl ?_ | refine reg_load_sh 2 rfl rfl rfl ?_ | refine reg_load_sh 3 rfl rfl rfl ?_ | refine reg_load_sh 4 rfl rfl rfl ?_ | refine reg_load_sh 5 rfl rfl rfl ?_ | refine reg_load_pt 0 rfl rfl rfl ?_ | refine reg_load_pt 1 rfl rfl rfl ?_ | refine reg_load_pt 2 rfl rfl rfl ?_ | refine reg_load_pt 3 rfl rfl rfl ?_ | refine reg_load_pt 4 rfl rfl rfl ?_ | refine reg_load_pt 5 rfl rfl rfl ?_)
        | ((with_reducible refine tag_call ?_); refine reg_callE [] (check_spec w0 P hP) rfl rfl rfl sub_nil rfl ?_)
        | ((with_reducible refine tag_field ?_); refine reg_field rfl ?_)
        | ((with_reducible refine tag_bin ?_); first | refine reg_sub64 rfl rfl (by omega) ?_ | refine reg_neq rfl rfl ?_ | refine reg_lss rfl rfl ?_ | refine reg_geq rfl rfl ?_ | refine reg_quo64 rfl rfl (by omega) ?_ | refine reg_rem64 rfl rfl (by omega) ?_ | refine reg_ne_nil rfl rfl ?_)
        | ((with_reducible refine tag_pick ?_); first | refine reg_pickT rfl ?_ | refine reg_pickF rfl ?_ | refine reg_pick rfl rfl rfl ?_)
        | ((with_reducible refine tag_box ?_); first | refine reg_box (cs := [_]) rfl (fun nb => ?_) | refine reg_box (cs := [_, _]) rfl (fun nb => ?_) | refine reg_box (cs := [_, _, _]) rfl (fun nb => ?_) | refine reg_box (cs := [_, _, _, _]) rfl (fun nb => ?_) | refine reg_box (cs := [_, _, _, _, _]) rfl (fun nb => ?_) | refine reg_box (cs := [_, _, _, _, _, _]) rfl (fun nb => ?_) | refine reg_box (cs := [_, _, _, _, _, _, _]) rfl (fun nb => ?_) | refine reg_box (cs := [_, _, _, _, _, _, _, _]) rfl (fun nb => ?_)))
    | refine reg_nil ?_
    | refine run_condT rfl ?_
    | refine run_condF rfl ?_
    | refine run_cond rfl (fun _ => ?_) (fun _ => ?_)
    | refine run_condV rfl (fun _ => ?_) (fun _ => ?_))
  all_goals refine ret_tmp2 rfl ⟨?_, rfl⟩
  all_goals refine congrArg Value.tuple (?_ : #[Value.int .i64 _, .bool _] = #[Value.int .i64 _, .bool _])
  all_goals simp_all [Pl.idx, Pl.node, w64, ← Int.not_lt]

theorem add_spec (w0 : World) (p : Nat) (P : Pl) (hP : P.Ok) (s : Sp) (c m : Int) (hc : 0 ≤ c ∧ c ≤ 3) (hsm : Sm s 1) : FnE PP w0 [] 48 [poolV P, spP p, .int .i64 c, .int .i64 m] [SpaceA p s] (.tuple #[]) [SpaceA p (P.add s c m)] := by
  obtain ⟨_, h1, h2, h3, h4, h5, h6⟩ := id hP
  refine fn_of_run en48 fn48 rfl rfl rfl ?_ -- @@FN 48
  repeat (first | refine run_seq ?_ | refine run_block ?_ | refine run_skip ?_ | refine run_inBlock ?_)
  first | refine run_region (by kernel_rfl) ?_ | refine run_drawA PP_mixed (by kernel_rfl) (by kernel_rfl) ?_
  repeat' (refine reg_cons rfl ?_; first
        | ((with_reducible refine tag_move ?_); refine reg_pure rfl ?_)
        | ((with_reducible refine tag_load ?_); first | refine reg_load_sh 0 rfl rfl rfl ?_ | refine reg_load_sh 1 rfl rfl rfl ?_ | refine reg_load_sh 2 rfl rfl rfl ?_ | refine reg_load_sh 3 rfl rfl rfl ?_ | refine reg_load_sh 4 rfl rfl rfl ?_ | refine reg_load_sh 5 rfl rfl rfl ?_ | refine reg_load_pt 0 rfl rfl rfl ?_ | refine reg_load_pt 1 rfl rfl rfl ?_ | refine reg_load_pt 2 rfl rfl rfl ?_ | refine reg_load_pt 3 rfl rfl rfl ?_ | refine reg_load_pt 4 rfl rfl rfl ?_ | refine reg_load_pt 5 rfl rfl rfl ?_)
        | ((with_reducible refine tag_field ?_); refine reg_field rfl ?_)
        | ((with_reducible refine tag_bin ?_); refine reg_add64 rfl rfl (by omega) ?_)
        | ((with_reducible refine tag_box ?_); first | refine reg_box (cs := [_]) rfl (fun nb => ?_) | refine reg_box (cs := [_, _]) rfl (fun nb => ?_) | refine reg_box (cs := [_, _, _]) rfl (fun nb => ?_) | refine reg_box (cs := [_, _, _, _]) rfl (fun nb => ?_) | refine reg_box (cs := [_, _, _, _, _]) rfl (fun nb => ?_) | refine reg_box (cs := [_, _, _, _, _, _]) rfl (fun nb => ?_) | refine reg_box (cs := [_, _, _, _, _, _, _]) rfl (fun nb => ?_) | refine reg_box (cs := [_, _, _, _, _, _, _, _]) rfl (fun nb => ?_)))
  all_goals refine reg_nil ?_
  all_goals repeat (first | refine run_seq ?_ | refine run_block ?_ | refine run_skip ?_ | refine run_inBlock ?_)
  refine run_share [1] rfl ?_
  repeat' (first
    | refine run_seq ?_
    | refine run_region (by kernel_rfl) ?_
    | refine run_drawA PP_mixed (by kernel_rfl) (by kernel_rfl) ?_
    | refine run_skip ?_
    | refine run_block ?_
    | refine run_inBlock ?_
    | refine run_inLoop ?_
    | refine run_exit rfl ?_
    | (refine reg_cons rfl ?_; first
        | refine reg_add (t := 2) rfl rfl ?_
        | ((with_reducible refine tag_move ?_); refine reg_pure rfl ?_)
        | ((with_reducible refine tag_load ?_); first | refine reg_load_sh 0 rfl rfl rfl ?_ | refine reg_load_sh 1 rfl rfl rfl ?_ | refine reg_load_sh 2 rfl rfl rfl ?_ | refine reg_load_sh 3 rfl rfl rfl ?_ | refine reg_load_sh 4 rfl rfl rfl ?_ | refine reg_load_sh 5 rfl rfl rfl ?_ | refine reg_load_pt 0 rfl rfl rfl ?_ | refine reg_load_pt 1 rfl rfl rfl ?_ | refine reg_load_pt 2 rfl rfl rfl ?_ | refine reg_load_pt 3 rfl rfl rfl ?_ | refine reg_load_pt 4 rfl rfl rfl ?_ | refine reg_load_pt 5 rfl rfl rfl ?_)
        | ((with_reducible refine tag_call ?_); first | refine reg_callE [0] (getS w0 p _ _ (by first | exact hsm.mono (by decide) | (repeat (first | refine sm_get ?_ | refine sm_put ?_)); exact hsm.mono (by decide))) rfl rfl rfl sub_nil rfl ?_ | refine reg_callE [0] (putS w0 p _ _ _ (by first | exact hsm.mono (by decide) | (repeat (first | refine sm_get ?_ | refine sm_put ?_)); exact hsm.mono (by decide))) rfl rfl rfl sub_nil rfl ?_)
        | ((with_reducible refine tag_field ?_); refine reg_field rfl ?_)
        | ((with_reducible refine tag_bin ?_); refine reg_add64 rfl rfl (by omega) ?_)
        | ((with_reducible refine tag_box ?_); first | refine reg_box (cs := [_]) rfl (fun nb => ?_) | refine reg_box (cs := [_, _]) rfl (fun nb => ?_) | refine reg_box (cs := [_, _, _]) rfl (fun nb => ?_) | refine reg_box (cs := [_, _, _, _]) rfl (fun nb => ?_) | refine reg_box (cs := [_, _, _, _, _]) rfl (fun nb => ?_) | refine reg_box (cs := [_, _, _, _, _, _]) rfl (fun nb => ?_) | refine reg_box (cs := [_, _, _, _, _, _, _]) rfl (fun nb => ?_) | refine reg_box (cs := [_, _, _, _, _, _, _, _]) rfl (fun nb => ?_)))
    | refine reg_nil ?_
    | refine run_condT rfl ?_
    | refine run_condF rfl ?_)
  refine end_tmp0 rfl ⟨rfl, rfl⟩
end Go.Proofs.YtilnknokgflkjaaDoor

/- The walks of package pool: Take, Give, Left. -/
namespace Go.Proofs.YtilnknokgflkjaaDoor
open Go.Vc Sim
set_option maxHeartbeats 4000000

theorem give_spec (w0 : World) (p : Nat) (P : Pl) (hP : P.Ok) (s : Sp) (a : Int) (hsm : Sm s 3) : FnE PP w0 [] 35 [poolV P, spP p, .int .i64 a] [SpaceA p s] (.int .i64 (P.give s a).1) [SpaceA p (P.give s a).2] := by
  obtain ⟨_, h1, h2, h3, h4, h5, h6⟩ := id hP
  refine fn_of_run en35 fn35 rfl rfl rfl ?_ -- @@FN 35
  repeat (first | refine run_seq ?_ | refine run_block ?_ | refine run_skip ?_ | refine run_inBlock ?_)
  first | refine run_region (by kernel_rfl) ?_ | refine run_drawA PP_mixed (by kernel_rfl) (by kernel_rfl) ?_
  repeat' (refine reg_cons rfl ?_; first
        | ((with_reducible refine tag_move ?_); refine reg_pure rfl ?_)
        | ((with_reducible refine tag_assign ?_); refine reg_pure rfl ?_)
        | ((with_reducible refine tag_load ?_); first | refine reg_load_sh 0 rfl rfl rfl ?_ | refine reg_load_sh 1 rfl rfl rfl ?_ | refine reg_load_sh 2 rfl rfl rfl ?_ | refine reg_load_sh 3 rfl rfl rfl ?_ | refine reg_load_sh 4 rfl rfl rfl ?_ | refine reg_load_sh 5 rfl rfl rfl ?_ | refine reg_load_pt 0 rfl rfl rfl ?_ | refine reg_load_pt 1 rfl rfl rfl ?_ | refine reg_load_pt 2 rfl rfl rfl ?_ | refine reg_load_pt 3 rfl rfl rfl ?_ | refine reg_load_pt 4 rfl rfl rfl ?_ | refine reg_load_pt 5 rfl rfl rfl ?_)
        | ((with_reducible refine tag_field ?_); refine reg_field rfl ?_)
        | ((with_reducible refine tag_extract ?_); refine reg_pure rfl ?_)
        | ((with_reducible refine tag_un ?_); first | refine reg_not rfl ?_ | refine reg_notB rfl ?_)
        | ((with_reducible refine tag_box ?_); first | refine reg_box (cs := [_]) rfl (fun nb => ?_) | refine reg_box (cs := [_, _]) rfl (fun nb => ?_) | refine reg_box (cs := [_, _, _]) rfl (fun nb => ?_) | refine reg_box (cs := [_, _, _, _]) rfl (fun nb => ?_) | refine reg_box (cs := [_, _, _, _, _]) rfl (fun nb => ?_) | refine reg_box (cs := [_, _, _, _, _, _]) rfl (fun nb => ?_) | refine reg_box (cs := [_, _, _, _, _, _, _]) rfl (fun nb => ?_) | refine reg_box (cs := [_, _, _, _, _, _, _, _]) rfl (fun nb => ?_)))
  all_goals refine reg_nil ?_
  all_goals repeat (first | refine run_seq ?_ | refine run_block ?_ | refine run_skip ?_ | refine run_inBlock ?_)
  refine run_share [1] rfl ?_
  repeat' (first
    | refine run_seq ?_
    | refine run_region (by kernel_rfl) ?_
    | refine run_drawA PP_mixed (by kernel_rfl) (by kernel_rfl) ?_
    | refine run_skip ?_
    | refine run_block ?_
    | refine run_inBlock ?_
    | refine run_inLoop ?_
    | refine run_exit rfl ?_
    | (refine reg_cons rfl ?_; first
        | ((with_reducible refine tag_move ?_); refine reg_pure rfl ?_)
        | ((with_reducible refine tag_assign ?_); refine reg_pure rfl ?_)
        | ((with_reducible refine tag_load ?_); first | refine reg_load_sh 0 rfl rfl rfl ?_ | refine reg_load_sh 1 rfl rfl rfl ?_ | refine reg_load_sh 2 rfl rfl rfl ?_ | refine reg_load_sh 3 rfl rfl rfl ?_ | refine reg_load_sh 4 rfl rfl rfl ?_ | refine reg_load_sh 5 rfl rfl rfl ?_ | refine reg_load_pt 0 rfl rfl rfl ?_ | refine reg_load_pt 1 rfl rfl rfl ?_ | refine reg_load_pt 2 rfl rfl rfl ?_ | refine reg_load_pt 3 rfl rfl rfl ?_ | refine reg_load_pt 4 rfl rfl rfl ?_ | refine reg_load_pt 5 rfl rfl rfl ?_)
        | ((with_reducible refine tag_call ?_); refine reg_callE [] (node_spec w0 P hP _) rfl rfl rfl sub_nil rfl ?_)
        | ((with_reducible refine tag_field ?_); refine reg_field rfl ?_)
        | ((with_reducible refine tag_extract ?_); refine reg_pure rfl ?_)
        | ((with_reducible refine tag_un ?_); first | refine reg_not rfl ?_ | refine reg_notB rfl ?_)
        | ((with_reducible refine tag_box ?_); first | refine reg_box (cs := [_]) rfl (fun nb => ?_) | refine reg_box (cs := [_, _]) rfl (fun nb => ?_) | refine reg_box (cs := [_, _, _]) rfl (fun nb => ?_) | refine reg_box (cs := [_, _, _, _]) rfl (fun nb => ?_) | refine reg_box (cs := [_, _, _, _, _]) rfl (fun nb => ?_) | refine reg_box (cs := [_, _, _, _, _, _]) rfl (fun nb => ?_) | refine reg_box (cs := [_, _, _, _, _, _, _]) rfl (fun nb => ?_) | refine reg_box (cs := [_, _, _, _, _, _, _, _]) rfl (fun nb => ?_)))
    | refine reg_nil ?_
    | refine run_condT rfl ?_
    | refine run_condF rfl ?_)
  refine run_condV rfl (fun hE => ?_) (fun hE => ?_)
  · have hE : P.node a = false := by simpa using hE
    repeat' (first
      | refine run_seq ?_
      | refine run_region (by kernel_rfl) ?_
      | refine run_drawA PP_mixed (by kernel_rfl) (by kernel_rfl) ?_
      | refine run_skip ?_
      | refine run_block ?_
      | refine run_inBlock ?_
      | refine run_inLoop ?_
      | refine run_exit rfl ?_
      | (refine reg_cons rfl ?_; first
          | ((with_reducible refine tag_move ?_); refine reg_pure rfl ?_)
          | ((with_reducible refine tag_assign ?_); refine reg_pure rfl ?_)
          | ((with_reducible refine tag_load ?_); first | refine reg_load_sh 0 rfl rfl rfl ?_ | refine reg_load_sh 1 rfl rfl rfl ?_ | refine reg_load_sh 2 rfl rfl rfl ?_ | refine reg_load_sh 3 rfl rfl rfl ?_ | refine reg_load_sh 4 rfl rfl rfl ?_ | refine reg_load_sh 5 rfl rfl rfl ?_ | refine reg_load_pt 0 rfl rfl rfl ?_ | refine reg_load_pt 1 rfl rfl rfl ?_ | refine reg_load_pt 2 rfl rfl rfl ?_ | refine reg_load_pt 3 rfl rfl rfl ?_ | refine reg_load_pt 4 rfl rfl rfl ?_ | refine reg_load_pt 5 rfl rfl rfl ?_)
          | ((with_reducible refine tag_field ?_); refine reg_field rfl ?_)
          | ((with_reducible refine tag_extract ?_); refine reg_pure rfl ?_)
          | ((with_reducible refine tag_un ?_); first | refine reg_not rfl ?_ | refine reg_notB rfl ?_)
          | ((with_reducible refine tag_box ?_); first | refine reg_box (cs := [_]) rfl (fun nb => ?_) | refine reg_box (cs := [_, _]) rfl (fun nb => ?_) | refine reg_box (cs := [_, _, _]) rfl (fun nb => ?_) | refine reg_box (cs := [_, _, _, _]) rfl (fun nb => ?_) | refine reg_box (cs := [_, _, _, _, _]) rfl (fun nb => ?_) | refine reg_box (cs := [_, _, _, _, _, _]) rfl (fun nb => ?_) | refine reg_box (cs := [_, _, _, _, _, _, _]) rfl (fun nb => ?_) | refine reg_box (cs := [_, _, _, _, _, _, _, _]) rfl (fun nb => ?_)))
      | refine reg_nil ?_
      | refine run_condT rfl ?_
      | refine run_condF rfl ?_)
    have e : P.give s a = (1, s) := by simp [Pl.give, hE]
    rw [e]
    exact ret_tmp1 rfl ⟨rfl, rfl⟩
  · have hE : P.node a = true := by simpa using hE
    repeat' (first
      | refine run_seq ?_
      | refine run_region (by kernel_rfl) ?_
      | refine run_drawA PP_mixed (by kernel_rfl) (by kernel_rfl) ?_
      | refine run_skip ?_
      | refine run_block ?_
      | refine run_inBlock ?_
      | refine run_inLoop ?_
      | refine run_exit rfl ?_
      | (refine reg_cons rfl ?_; first
          | ((with_reducible refine tag_move ?_); refine reg_pure rfl ?_)
          | ((with_reducible refine tag_assign ?_); refine reg_pure rfl ?_)
          | ((with_reducible refine tag_load ?_); first | refine reg_load_sh 0 rfl rfl rfl ?_ | refine reg_load_sh 1 rfl rfl rfl ?_ | refine reg_load_sh 2 rfl rfl rfl ?_ | refine reg_load_sh 3 rfl rfl rfl ?_ | refine reg_load_sh 4 rfl rfl rfl ?_ | refine reg_load_sh 5 rfl rfl rfl ?_ | refine reg_load_pt 0 rfl rfl rfl ?_ | refine reg_load_pt 1 rfl rfl rfl ?_ | refine reg_load_pt 2 rfl rfl rfl ?_ | refine reg_load_pt 3 rfl rfl rfl ?_ | refine reg_load_pt 4 rfl rfl rfl ?_ | refine reg_load_pt 5 rfl rfl rfl ?_)
          | ((with_reducible refine tag_call ?_); first | refine reg_callE [0] (getS w0 p _ _ (by first | exact hsm.mono (by decide) | (repeat (first | refine sm_get ?_ | refine sm_put ?_)); exact hsm.mono (by decide))) rfl rfl rfl sub_nil rfl ?_ | refine reg_callE [0] (putS w0 p _ _ _ (by first | exact hsm.mono (by decide) | (repeat (first | refine sm_get ?_ | refine sm_put ?_)); exact hsm.mono (by decide))) rfl rfl rfl sub_nil rfl ?_ | refine reg_callE [0] (add_spec w0 p P hP _ _ _ (by decide) (by first | exact hsm.mono (by decide) | (repeat (first | refine sm_get ?_ | refine sm_put ?_)); exact hsm.mono (by decide))) rfl rfl rfl sub_nil rfl ?_)
          | ((with_reducible refine tag_field ?_); refine reg_field rfl ?_)
          | ((with_reducible refine tag_extract ?_); refine reg_pure rfl ?_)
          | ((with_reducible refine tag_un ?_); first | refine reg_not rfl ?_ | refine reg_notB rfl ?_)
          | ((with_reducible refine tag_box ?_); first | refine reg_box (cs := [_]) rfl (fun nb => ?_) | refine reg_box (cs := [_, _]) rfl (fun nb => ?_) | refine reg_box (cs := [_, _, _]) rfl (fun nb => ?_) | refine reg_box (cs := [_, _, _, _]) rfl (fun nb => ?_) | refine reg_box (cs := [_, _, _, _, _]) rfl (fun nb => ?_) | refine reg_box (cs := [_, _, _, _, _, _]) rfl (fun nb => ?_) | refine reg_box (cs := [_, _, _, _, _, _, _]) rfl (fun nb => ?_) | refine reg_box (cs := [_, _, _, _, _, _, _, _]) rfl (fun nb => ?_)))
      | refine reg_nil ?_
      | refine run_condT rfl ?_
      | refine run_condF rfl ?_)
    have e : P.give s a = (0, P.add (((s.get P.root).2.put a (s.get P.root).1).put P.root a) 2 1) := by simp [Pl.give, hE]
    rw [e]
    exact ret_tmp1 rfl ⟨rfl, rfl⟩

theorem left_spec (w0 : World) (p : Nat) (P : Pl) (hP : P.Ok) (s : Sp) (hsm : Sm s 0) : FnE PP w0 [] 13 [poolV P, spP p] [SpaceA p s] (.int .i64 (P.left s).1) [SpaceA p (P.left s).2] := by
  obtain ⟨_, h1, h2, h3, h4, h5, h6⟩ := id hP
  refine fn_of_run en13 fn13 rfl rfl rfl ?_ -- @@FN 13
  repeat (first | refine run_seq ?_ | refine run_block ?_ | refine run_skip ?_ | refine run_inBlock ?_)
  first | refine run_region (by kernel_rfl) ?_ | refine run_drawA PP_mixed (by kernel_rfl) (by kernel_rfl) ?_
  repeat' (refine reg_cons rfl ?_; first
        | ((with_reducible refine tag_move ?_); refine reg_pure rfl ?_)
        | ((with_reducible refine tag_assign ?_); refine reg_pure rfl ?_)
        | ((with_reducible refine tag_load ?_); first | refine reg_load_sh 0 rfl rfl rfl ?_ | refine reg_load_sh 1 rfl rfl rfl ?_ | refine reg_load_sh 2 rfl rfl rfl ?_ | refine reg_load_sh 3 rfl rfl rfl ?_ | refine reg_load_sh 4 rfl rfl rfl ?_ | refine reg_load_sh 5 rfl rfl rfl ?_ | refine reg_load_pt 0 rfl rfl rfl ?_ | refine reg_load_pt 1 rfl rfl rfl ?_ | refine reg_load_pt 2 rfl rfl rfl ?_ | refine reg_load_pt 3 rfl rfl rfl ?_ | refine reg_load_pt 4 rfl rfl rfl ?_ | refine reg_load_pt 5 rfl rfl rfl ?_)
        | ((with_reducible refine tag_call ?_); refine reg_max rfl rfl ?_)
        | ((with_reducible refine tag_field ?_); refine reg_field rfl ?_)
        | ((with_reducible refine tag_bin ?_); first | refine reg_add64 rfl rfl (by omega) ?_ | refine reg_sub64 rfl rfl (by omega) ?_ | refine reg_neq rfl rfl ?_ | refine reg_ne_nil rfl rfl ?_)
        | ((with_reducible refine tag_box ?_); first | refine reg_box (cs := [_]) rfl (fun nb => ?_) | refine reg_box (cs := [_, _]) rfl (fun nb => ?_) | refine reg_box (cs := [_, _, _]) rfl (fun nb => ?_) | refine reg_box (cs := [_, _, _, _]) rfl (fun nb => ?_) | refine reg_box (cs := [_, _, _, _, _]) rfl (fun nb => ?_) | refine reg_box (cs := [_, _, _, _, _, _]) rfl (fun nb => ?_) | refine reg_box (cs := [_, _, _, _, _, _, _]) rfl (fun nb => ?_) | refine reg_box (cs := [_, _, _, _, _, _, _, _]) rfl (fun nb => ?_)))
  all_goals refine reg_nil ?_
  all_goals repeat (first | refine run_seq ?_ | refine run_block ?_ | refine run_skip ?_ | refine run_inBlock ?_)
  refine run_share [1] rfl ?_
  repeat' (first
    | refine run_seq ?_
    | refine run_region (by kernel_rfl) ?_
    | refine run_drawA PP_mixed (by kernel_rfl) (by kernel_rfl) ?_
    | refine run_skip ?_
    | refine run_block ?_
    | refine run_inBlock ?_
    | refine run_inLoop ?_
    | refine run_exit rfl ?_
    | (refine reg_cons rfl ?_; first
        | refine reg_add (t := 2) rfl rfl ?_
        | refine reg_sub (t := 2) rfl rfl ?_
        | ((with_reducible refine tag_move ?_); refine reg_pure rfl ?_)
        | ((with_reducible refine tag_assign ?_); refine reg_pure rfl ?_)
        | ((with_reducible refine tag_load ?_); first | refine reg_load_sh 0 rfl rfl rfl ?_ | refine reg_load_sh 1 rfl rfl rfl ?_ | refine reg_load_sh 2 rfl rfl rfl ?_ | refine reg_load_sh 3 rfl rfl rfl ?_ | refine reg_load_sh 4 rfl rfl rfl ?_ | refine reg_load_sh 5 rfl rfl rfl ?_ | refine reg_load_pt 0 rfl rfl rfl ?_ | refine reg_load_pt 1 rfl rfl rfl ?_ | refine reg_load_pt 2 rfl rfl rfl ?_ | refine reg_load_pt 3 rfl rfl rfl ?_ | refine reg_load_pt 4 rfl rfl rfl ?_ | refine reg_load_pt 5 rfl rfl rfl ?_)
        | ((with_reducible refine tag_call ?_); first | refine reg_callE [] (check_spec w0 P hP) rfl rfl rfl sub_nil rfl ?_ | refine reg_callE [0] (getS w0 p _ _ (by first | exact hsm.mono (by decide) | (repeat (first | refine sm_get ?_ | refine sm_put ?_)); exact hsm.mono (by decide))) rfl rfl rfl sub_nil rfl ?_ | refine reg_max rfl rfl ?_)
        | ((with_reducible refine tag_field ?_); refine reg_field rfl ?_)
        | ((with_reducible refine tag_bin ?_); first | refine reg_add64 rfl rfl (by omega) ?_ | refine reg_sub64 rfl rfl (by omega) ?_ | refine reg_neq rfl rfl ?_ | refine reg_ne_nil rfl rfl ?_)
        | ((with_reducible refine tag_box ?_); first | refine reg_box (cs := [_]) rfl (fun nb => ?_) | refine reg_box (cs := [_, _]) rfl (fun nb => ?_) | refine reg_box (cs := [_, _, _]) rfl (fun nb => ?_) | refine reg_box (cs := [_, _, _, _]) rfl (fun nb => ?_) | refine reg_box (cs := [_, _, _, _, _]) rfl (fun nb => ?_) | refine reg_box (cs := [_, _, _, _, _, _]) rfl (fun nb => ?_) | refine reg_box (cs := [_, _, _, _, _, _, _]) rfl (fun nb => ?_) | refine reg_box (cs := [_, _, _, _, _, _, _, _]) rfl (fun nb => ?_)))
    | refine reg_nil ?_
    | refine run_condT rfl ?_
    | refine run_condF rfl ?_)
  refine ret_tmp1 rfl ⟨int_eq ?_, rfl⟩
  simp only [Pl.left, w64]
  omega

theorem take_spec (w0 : World) (p : Nat) (P : Pl) (hP : P.Ok) (s : Sp) (hsm : Sm s 2) : FnE PP w0 [] 47 [poolV P, spP p] [SpaceA p s] (.tuple #[.int .i64 (P.take s).1, .int .i64 (P.take s).2.1]) [SpaceA p (P.take s).2.2] := by
  obtain ⟨_, h1, h2, h3, h4, h5, h6⟩ := id hP
  refine fn_of_run en47 fn47 rfl rfl rfl ?_ -- @@FN 47
  repeat (first | refine run_seq ?_ | refine run_block ?_ | refine run_skip ?_ | refine run_inBlock ?_)
  first | refine run_region (by kernel_rfl) ?_ | refine run_drawA PP_mixed (by kernel_rfl) (by kernel_rfl) ?_
  repeat' (refine reg_cons rfl ?_; first
        | ((with_reducible refine tag_guard ?_); first | refine reg_guard_in rfl ?_ | refine reg_guard_out rfl ?_ | refine reg_guard_none rfl ?_ | refine reg_guard rfl rfl (fun _ => ?_) (fun _ => ?_))
        | ((with_reducible refine tag_move ?_); refine reg_pure rfl ?_)
        | ((with_reducible refine tag_assign ?_); refine reg_pure rfl ?_)
        | ((with_reducible refine tag_load ?_); first | refine reg_load_sh 0 rfl rfl rfl ?_ | refine reg_load_sh 1 rfl rfl rfl ?_ | refine reg_load_sh 2 rfl rfl rfl ?_ | refine reg_load_sh 3 rfl rfl rfl ?_ | refine reg_load_sh 4 rfl rfl rfl ?_ | refine reg_load_sh 5 rfl rfl rfl ?_ | refine reg_load_pt 0 rfl rfl rfl ?_ | refine reg_load_pt 1 rfl rfl rfl ?_ | refine reg_load_pt 2 rfl rfl rfl ?_ | refine reg_load_pt 3 rfl rfl rfl ?_ | refine reg_load_pt 4 rfl rfl rfl ?_ | refine reg_load_pt 5 rfl rfl rfl ?_)
        | ((with_reducible refine tag_field ?_); refine reg_field rfl ?_)
        | ((with_reducible refine tag_extract ?_); refine reg_pure rfl ?_)
        | ((with_reducible refine tag_bin ?_); first | refine reg_add64 rfl rfl (by omega) ?_ | refine reg_mul64 rfl rfl (by omega) ?_ | refine reg_neq rfl rfl ?_ | refine reg_lss rfl rfl ?_ | refine reg_geq rfl rfl ?_ | refine reg_ne_nil rfl rfl ?_)
        | ((with_reducible refine tag_un ?_); first | refine reg_not rfl ?_ | refine reg_notB rfl ?_)
        | ((with_reducible refine tag_pick ?_); first | refine reg_pickT rfl ?_ | refine reg_pickF rfl ?_ | refine reg_pick rfl rfl rfl ?_)
        | ((with_reducible refine tag_box ?_); first | refine reg_box (cs := [_]) rfl (fun nb => ?_) | refine reg_box (cs := [_, _]) rfl (fun nb => ?_) | refine reg_box (cs := [_, _, _]) rfl (fun nb => ?_) | refine reg_box (cs := [_, _, _, _]) rfl (fun nb => ?_) | refine reg_box (cs := [_, _, _, _, _]) rfl (fun nb => ?_) | refine reg_box (cs := [_, _, _, _, _, _]) rfl (fun nb => ?_) | refine reg_box (cs := [_, _, _, _, _, _, _]) rfl (fun nb => ?_) | refine reg_box (cs := [_, _, _, _, _, _, _, _]) rfl (fun nb => ?_)))
  all_goals refine reg_nil ?_
  all_goals repeat (first | refine run_seq ?_ | refine run_block ?_ | refine run_skip ?_ | refine run_inBlock ?_)
  refine run_share [1] rfl ?_
  repeat' (first
    | refine run_seq ?_
    | refine run_region (by kernel_rfl) ?_
    | refine run_drawA PP_mixed (by kernel_rfl) (by kernel_rfl) ?_
    | refine run_skip ?_
    | refine run_block ?_
    | refine run_inBlock ?_
    | refine run_inLoop ?_
    | refine run_exit rfl ?_
    | (refine reg_cons rfl ?_; first
        | ((with_reducible refine tag_guard ?_); first | refine reg_guard_in rfl ?_ | refine reg_guard_out rfl ?_ | refine reg_guard_none rfl ?_ | refine reg_guard rfl rfl (fun _ => ?_) (fun _ => ?_))
        | ((with_reducible refine tag_move ?_); refine reg_pure rfl ?_)
        | ((with_reducible refine tag_assign ?_); refine reg_pure rfl ?_)
        | ((with_reducible refine tag_load ?_); first | refine reg_load_sh 0 rfl rfl rfl ?_ | refine reg_load_sh 1 rfl rfl rfl ?_ | refine reg_load_sh 2 rfl rfl rfl ?_ | refine reg_load_sh 3 rfl rfl rfl ?_ | refine reg_load_sh 4 rfl rfl rfl ?_ | refine reg_load_sh 5 rfl rfl rfl ?_ | refine reg_load_pt 0 rfl rfl rfl ?_ | refine reg_load_pt 1 rfl rfl rfl ?_ | refine reg_load_pt 2 rfl rfl rfl ?_ | refine reg_load_pt 3 rfl rfl rfl ?_ | refine reg_load_pt 4 rfl rfl rfl ?_ | refine reg_load_pt 5 rfl rfl rfl ?_)
        | ((with_reducible refine tag_call ?_); first | refine reg_callE [] (check_spec w0 P hP) rfl rfl rfl sub_nil rfl ?_ | refine reg_callE [0] (getS w0 p _ _ (by first | exact hsm.mono (by decide) | (repeat (first | refine sm_get ?_ | refine sm_put ?_)); exact hsm.mono (by decide))) rfl rfl rfl sub_nil rfl ?_ | refine reg_callE [0] (putS w0 p _ _ _ (by first | exact hsm.mono (by decide) | (repeat (first | refine sm_get ?_ | refine sm_put ?_)); exact hsm.mono (by decide))) rfl rfl rfl sub_nil rfl ?_)
        | ((with_reducible refine tag_field ?_); refine reg_field rfl ?_)
        | ((with_reducible refine tag_extract ?_); refine reg_pure rfl ?_)
        | ((with_reducible refine tag_bin ?_); first | refine reg_add64 rfl rfl (by omega) ?_ | refine reg_mul64 rfl rfl (by omega) ?_ | refine reg_neq rfl rfl ?_ | refine reg_lss rfl rfl ?_ | refine reg_geq rfl rfl ?_ | refine reg_ne_nil rfl rfl ?_)
        | ((with_reducible refine tag_un ?_); first | refine reg_not rfl ?_ | refine reg_notB rfl ?_)
        | ((with_reducible refine tag_pick ?_); first | refine reg_pickT rfl ?_ | refine reg_pickF rfl ?_ | refine reg_pick rfl rfl rfl ?_)
        | ((with_reducible refine tag_box ?_); first | refine reg_box (cs := [_]) rfl (fun nb => ?_) | refine reg_box (cs := [_, _]) rfl (fun nb => ?_) | refine reg_box (cs := [_, _, _]) rfl (fun nb => ?_) | refine reg_box (cs := [_, _, _, _]) rfl (fun nb => ?_) | refine reg_box (cs := [_, _, _, _, _]) rfl (fun nb => ?_) | refine reg_box (cs := [_, _, _, _, _, _]) rfl (fun nb => ?_) | refine reg_box (cs := [_, _, _, _, _, _, _]) rfl (fun nb => ?_) | refine reg_box (cs := [_, _, _, _, _, _, _, _]) rfl (fun nb => ?_)))
    | refine reg_nil ?_
    | refine run_condT rfl ?_
    | refine run_condF rfl ?_)
  refine run_cond rfl (fun hE => ?_) (fun hE => ?_)
  · repeat' (first
      | refine run_seq ?_
      | refine run_region (by kernel_rfl) ?_
      | refine run_drawA PP_mixed (by kernel_rfl) (by kernel_rfl) ?_
      | refine run_skip ?_
      | refine run_block ?_
      | refine run_inBlock ?_
      | refine run_inLoop ?_
      | refine run_exit rfl ?_
      | (refine reg_cons rfl ?_; first
          | ((with_reducible refine tag_guard ?_); first | refine reg_guard_in rfl ?_ | refine reg_guard_out rfl ?_ | refine reg_guard_none rfl ?_ | refine reg_guard rfl rfl (fun _ => ?_) (fun _ => ?_))
          | ((with_reducible refine tag_move ?_); refine reg_pure rfl ?_)
          | ((with_reducible refine tag_assign ?_); refine reg_pure rfl ?_)
          | ((with_reducible refine tag_load ?_); first | refine reg_load_sh 0 rfl rfl rfl ?_ | refine reg_load_sh 1 rfl rfl rfl ?_ | refine reg_load_sh 2 rfl rfl rfl ?_ | refine reg_load_sh 3 rfl rfl rfl ?_ | refine reg_load_sh 4 rfl rfl rfl ?_ | refine reg_load_sh 5 rfl rfl rfl ?_ | refine reg_load_pt 0 rfl rfl rfl ?_ | refine reg_load_pt 1 rfl rfl rfl ?_ | refine reg_load_pt 2 rfl rfl rfl ?_ | refine reg_load_pt 3 rfl rfl rfl ?_ | refine reg_load_pt 4 rfl rfl rfl ?_ | refine reg_load_pt 5 rfl rfl rfl ?_)
          | ((with_reducible refine tag_call ?_); refine reg_callE [] (node_spec w0 P hP _) rfl rfl rfl sub_nil rfl ?_)
          | ((with_reducible refine tag_field ?_); refine reg_field rfl ?_)
          | ((with_reducible refine tag_extract ?_); refine reg_pure rfl ?_)
          | ((with_reducible refine tag_bin ?_); first | refine reg_add64 rfl rfl (by omega) ?_ | refine reg_mul64 rfl rfl (by omega) ?_ | refine reg_neq rfl rfl ?_ | refine reg_lss rfl rfl ?_ | refine reg_geq rfl rfl ?_ | refine reg_ne_nil rfl rfl ?_)
          | ((with_reducible refine tag_un ?_); first | refine reg_not rfl ?_ | refine reg_notB rfl ?_)
          | ((with_reducible refine tag_pick ?_); first | refine reg_pickT rfl ?_ | refine reg_pickF rfl ?_ | refine reg_pick rfl rfl rfl ?_)
          | ((with_reducible refine tag_box ?_); first | refine reg_box (cs := [_]) rfl (fun nb => ?_) | refine reg_box (cs := [_, _]) rfl (fun nb => ?_) | refine reg_box (cs := [_, _, _]) rfl (fun nb => ?_) | refine reg_box (cs := [_, _, _, _]) rfl (fun nb => ?_) | refine reg_box (cs := [_, _, _, _, _]) rfl (fun nb => ?_) | refine reg_box (cs := [_, _, _, _, _, _]) rfl (fun nb => ?_) | refine reg_box (cs := [_, _, _, _, _, _, _]) rfl (fun nb => ?_) | refine reg_box (cs := [_, _, _, _, _, _, _, _]) rfl (fun nb => ?_)))
      | refine reg_nil ?_
      | refine run_condT rfl ?_
      | refine run_condF rfl ?_)
    refine run_condV rfl (fun hN => ?_) (fun hN => ?_)
    · have hN : P.node (s.get P.root).1 = false := by simpa using hN
      repeat' (first
        | refine run_seq ?_
        | refine run_region (by kernel_rfl) ?_
        | refine run_drawA PP_mixed (by kernel_rfl) (by kernel_rfl) ?_
        | refine run_skip ?_
        | refine run_block ?_
        | refine run_inBlock ?_
        | refine run_inLoop ?_
        | refine run_exit rfl ?_
        | (refine reg_cons rfl ?_; first
            | ((with_reducible refine tag_guard ?_); first | refine reg_guard_in rfl ?_ | refine reg_guard_out rfl ?_ | refine reg_guard_none rfl ?_ | refine reg_guard rfl rfl (fun _ => ?_) (fun _ => ?_))
            | ((with_reducible refine tag_move ?_); refine reg_pure rfl ?_)
            | ((with_reducible refine tag_assign ?_); refine reg_pure rfl ?_)
            | ((with_reducible refine tag_load ?_); first | refine reg_load_sh 0 rfl rfl rfl ?_ | refine reg_load_sh 1 rfl rfl rfl ?_ | refine reg_load_sh 2 rfl rfl rfl ?_ | refine reg_load_sh 3 rfl rfl rfl ?_ | refine reg_load_sh 4 rfl rfl rfl ?_ | refine reg_load_sh 5 rfl rfl rfl ?_ | refine reg_load_pt 0 rfl rfl rfl ?_ | refine reg_load_pt 1 rfl rfl rfl ?_ | refine reg_load_pt 2 rfl rfl rfl ?_ | refine reg_load_pt 3 rfl rfl rfl ?_ | refine reg_load_pt 4 rfl rfl rfl ?_ | refine reg_load_pt 5 rfl rfl rfl ?_)
            | ((with_reducible refine tag_field ?_); refine reg_field rfl ?_)
            | ((with_reducible refine tag_extract ?_); refine reg_pure rfl ?_)
            | ((with_reducible refine tag_bin ?_); first | refine reg_add64 rfl rfl (by omega) ?_ | refine reg_mul64 rfl rfl (by omega) ?_ | refine reg_neq rfl rfl ?_ | refine reg_lss rfl rfl ?_ | refine reg_geq rfl rfl ?_ | refine reg_ne_nil rfl rfl ?_)
            | ((with_reducible refine tag_un ?_); first | refine reg_not rfl ?_ | refine reg_notB rfl ?_)
            | ((with_reducible refine tag_pick ?_); first | refine reg_pickT rfl ?_ | refine reg_pickF rfl ?_ | refine reg_pick rfl rfl rfl ?_)
            | ((with_reducible refine tag_box ?_); first | refine reg_box (cs := [_]) rfl (fun nb => ?_) | refine reg_box (cs := [_, _]) rfl (fun nb => ?_) | refine reg_box (cs := [_, _, _]) rfl (fun nb => ?_) | refine reg_box (cs := [_, _, _, _]) rfl (fun nb => ?_) | refine reg_box (cs := [_, _, _, _, _]) rfl (fun nb => ?_) | refine reg_box (cs := [_, _, _, _, _, _]) rfl (fun nb => ?_) | refine reg_box (cs := [_, _, _, _, _, _, _]) rfl (fun nb => ?_) | refine reg_box (cs := [_, _, _, _, _, _, _, _]) rfl (fun nb => ?_)))
        | refine reg_nil ?_
        | refine run_condT rfl ?_
        | refine run_condF rfl ?_)
      have e : P.take s = (0, 24, (s.get P.root).2) := by simp [Pl.take, hE, hN]
      rw [e]
      exact ret_tmp2 rfl ⟨rfl, rfl⟩
    · have hN : P.node (s.get P.root).1 = true := by simpa using hN
      repeat' (first
        | refine run_seq ?_
        | refine run_region (by kernel_rfl) ?_
        | refine run_drawA PP_mixed (by kernel_rfl) (by kernel_rfl) ?_
        | refine run_skip ?_
        | refine run_block ?_
        | refine run_inBlock ?_
        | refine run_inLoop ?_
        | refine run_exit rfl ?_
        | (refine reg_cons rfl ?_; first
            | ((with_reducible refine tag_guard ?_); first | refine reg_guard_in rfl ?_ | refine reg_guard_out rfl ?_ | refine reg_guard_none rfl ?_ | refine reg_guard rfl rfl (fun _ => ?_) (fun _ => ?_))
            | ((with_reducible refine tag_move ?_); refine reg_pure rfl ?_)
            | ((with_reducible refine tag_assign ?_); refine reg_pure rfl ?_)
            | ((with_reducible refine tag_load ?_); first | refine reg_load_sh 0 rfl rfl rfl ?_ | refine reg_load_sh 1 rfl rfl rfl ?_ | refine reg_load_sh 2 rfl rfl rfl ?_ | refine reg_load_sh 3 rfl rfl rfl ?_ | refine reg_load_sh 4 rfl rfl rfl ?_ | refine reg_load_sh 5 rfl rfl rfl ?_ | refine reg_load_pt 0 rfl rfl rfl ?_ | refine reg_load_pt 1 rfl rfl rfl ?_ | refine reg_load_pt 2 rfl rfl rfl ?_ | refine reg_load_pt 3 rfl rfl rfl ?_ | refine reg_load_pt 4 rfl rfl rfl ?_ | refine reg_load_pt 5 rfl rfl rfl ?_)
            | ((with_reducible refine tag_call ?_); first | refine reg_callE [0] (getS w0 p _ _ (by first | exact hsm.mono (by decide) | (repeat (first | refine sm_get ?_ | refine sm_put ?_)); exact hsm.mono (by decide))) rfl rfl rfl sub_nil rfl ?_ | refine reg_callE [0] (putS w0 p _ _ _ (by first | exact hsm.mono (by decide) | (repeat (first | refine sm_get ?_ | refine sm_put ?_)); exact hsm.mono (by decide))) rfl rfl rfl sub_nil rfl ?_ | refine reg_callE [0] (add_spec w0 p P hP _ _ _ (by decide) (by first | exact hsm.mono (by decide) | (repeat (first | refine sm_get ?_ | refine sm_put ?_)); exact hsm.mono (by decide))) rfl rfl rfl sub_nil rfl ?_)
            | ((with_reducible refine tag_field ?_); refine reg_field rfl ?_)
            | ((with_reducible refine tag_extract ?_); refine reg_pure rfl ?_)
            | ((with_reducible refine tag_bin ?_); first | refine reg_add64 rfl rfl (by omega) ?_ | refine reg_mul64 rfl rfl (by omega) ?_ | refine reg_neq rfl rfl ?_ | refine reg_lss rfl rfl ?_ | refine reg_geq rfl rfl ?_ | refine reg_ne_nil rfl rfl ?_)
            | ((with_reducible refine tag_un ?_); first | refine reg_not rfl ?_ | refine reg_notB rfl ?_)
            | ((with_reducible refine tag_pick ?_); first | refine reg_pickT rfl ?_ | refine reg_pickF rfl ?_ | refine reg_pick rfl rfl rfl ?_)
            | ((with_reducible refine tag_box ?_); first | refine reg_box (cs := [_]) rfl (fun nb => ?_) | refine reg_box (cs := [_, _]) rfl (fun nb => ?_) | refine reg_box (cs := [_, _, _]) rfl (fun nb => ?_) | refine reg_box (cs := [_, _, _, _]) rfl (fun nb => ?_) | refine reg_box (cs := [_, _, _, _, _]) rfl (fun nb => ?_) | refine reg_box (cs := [_, _, _, _, _, _]) rfl (fun nb => ?_) | refine reg_box (cs := [_, _, _, _, _, _, _]) rfl (fun nb => ?_) | refine reg_box (cs := [_, _, _, _, _, _, _, _]) rfl (fun nb => ?_)))
        | refine reg_nil ?_
        | refine run_condT rfl ?_
        | refine run_condF rfl ?_)
      have e : P.take s = ((s.get P.root).1, 0, P.add (((s.get P.root).2.get (s.get P.root).1).2.put P.root ((s.get P.root).2.get (s.get P.root).1).1) 2 (-1)) := by simp [Pl.take, hE, hN]
      rw [e]
      exact ret_tmp2 rfl ⟨rfl, rfl⟩
  · repeat' (first
      | refine run_seq ?_
      | refine run_region (by kernel_rfl) ?_
      | refine run_drawA PP_mixed (by kernel_rfl) (by kernel_rfl) ?_
      | refine run_skip ?_
      | refine run_block ?_
      | refine run_inBlock ?_
      | refine run_inLoop ?_
      | refine run_exit rfl ?_
      | (refine reg_cons rfl ?_; first
          | ((with_reducible refine tag_guard ?_); first | refine reg_guard_in rfl ?_ | refine reg_guard_out rfl ?_ | refine reg_guard_none rfl ?_ | refine reg_guard rfl rfl (fun _ => ?_) (fun _ => ?_))
          | ((with_reducible refine tag_move ?_); refine reg_pure rfl ?_)
          | ((with_reducible refine tag_assign ?_); refine reg_pure rfl ?_)
          | ((with_reducible refine tag_load ?_); first | refine reg_load_sh 0 rfl rfl rfl ?_ | refine reg_load_sh 1 rfl rfl rfl ?_ | refine reg_load_sh 2 rfl rfl rfl ?_ | refine reg_load_sh 3 rfl rfl rfl ?_ | refine reg_load_sh 4 rfl rfl rfl ?_ | refine reg_load_sh 5 rfl rfl rfl ?_ | refine reg_load_pt 0 rfl rfl rfl ?_ | refine reg_load_pt 1 rfl rfl rfl ?_ | refine reg_load_pt 2 rfl rfl rfl ?_ | refine reg_load_pt 3 rfl rfl rfl ?_ | refine reg_load_pt 4 rfl rfl rfl ?_ | refine reg_load_pt 5 rfl rfl rfl ?_)
          | ((with_reducible refine tag_call ?_); first | refine reg_callE [0] (getS w0 p _ _ (by first | exact hsm.mono (by decide) | (repeat (first | refine sm_get ?_ | refine sm_put ?_)); exact hsm.mono (by decide))) rfl rfl rfl sub_nil rfl ?_ | refine reg_callE [0] (putS w0 p _ _ _ (by first | exact hsm.mono (by decide) | (repeat (first | refine sm_get ?_ | refine sm_put ?_)); exact hsm.mono (by decide))) rfl rfl rfl sub_nil rfl ?_)
          | ((with_reducible refine tag_field ?_); refine reg_field rfl ?_)
          | ((with_reducible refine tag_extract ?_); refine reg_pure rfl ?_)
          | ((with_reducible refine tag_bin ?_); first | refine reg_add64 rfl rfl (by omega) ?_ | refine reg_mul64 rfl rfl (by omega) ?_ | refine reg_neq rfl rfl ?_ | refine reg_lss rfl rfl ?_ | refine reg_geq rfl rfl ?_ | refine reg_ne_nil rfl rfl ?_)
          | ((with_reducible refine tag_un ?_); first | refine reg_not rfl ?_ | refine reg_notB rfl ?_)
          | ((with_reducible refine tag_pick ?_); first | refine reg_pickT rfl ?_ | refine reg_pickF rfl ?_ | refine reg_pick rfl rfl rfl ?_)
          | ((with_reducible refine tag_box ?_); first | refine reg_box (cs := [_]) rfl (fun nb => ?_) | refine reg_box (cs := [_, _]) rfl (fun nb => ?_) | refine reg_box (cs := [_, _, _]) rfl (fun nb => ?_) | refine reg_box (cs := [_, _, _, _]) rfl (fun nb => ?_) | refine reg_box (cs := [_, _, _, _, _]) rfl (fun nb => ?_) | refine reg_box (cs := [_, _, _, _, _, _]) rfl (fun nb => ?_) | refine reg_box (cs := [_, _, _, _, _, _, _]) rfl (fun nb => ?_) | refine reg_box (cs := [_, _, _, _, _, _, _, _]) rfl (fun nb => ?_)))
      | refine reg_nil ?_
      | refine run_condT rfl ?_
      | refine run_condF rfl ?_
      | refine run_cond rfl (fun _ => ?_) (fun _ => ?_)
      | refine run_condV rfl (fun _ => ?_) (fun _ => ?_))
    · have e : P.take s = (0, 9, ((s.get P.root).2.get (P.root + 1)).2) := by simp_all [Pl.take]
      rw [e]
      exact ret_tmp2 rfl ⟨rfl, rfl⟩
    · have e : P.take s = (0, 9, ((s.get P.root).2.get (P.root + 1)).2) := by simp_all [Pl.take]
      rw [e]
      exact ret_tmp2 rfl ⟨rfl, rfl⟩
    · have e : P.take s = (P.frm + 8 * ((s.get P.root).2.get (P.root + 1)).1, 0, ((s.get P.root).2.get (P.root + 1)).2.put (P.root + 1) (((s.get P.root).2.get (P.root + 1)).1 + 1)) := by
        unfold Pl.take
        rw [if_neg hE, if_neg (by omega)]
      rw [e]
      exact ret_tmp2 rfl ⟨rfl, rfl⟩
end Go.Proofs.YtilnknokgflkjaaDoor

/- The plain model of package array. -/
namespace Sim
open Go Go.Vc

structure Ar where
  pool : Pl
  root : Int
def Ar.Ok (A : Ar) : Prop := A.pool.Ok ∧ 0 ≤ A.root ∧ A.root ≤ 4096
def pw : Nat → Int
  | 0 => 1
  | 1 => 8
  | 2 => 64
  | 3 => 512
  | _ => 4096
def dep (n : Int) : Nat := if n = 0 then 0 else if n ≤ 8 then 1 else if n ≤ 64 then 2 else if n ≤ 512 then 3 else 4
def dig (i : Int) (d : Nat) : Int := i / pw (d - 1) % 8
theorem pw_pos : ∀ d, 1 ≤ pw d ∧ pw d ≤ 4096
  | 0 => by decide
  | 1 => by decide
  | 2 => by decide
  | 3 => by decide
  | _ + 4 => ⟨by simp [pw], by simp [pw]⟩
theorem dig_bd (i : Int) (d : Nat) : 0 ≤ dig i d ∧ dig i d ≤ 7 := by unfold dig; omega
theorem dep_le (n : Int) : dep n ≤ 4 := by unfold dep; split <;> try split <;> try split <;> try split
                                           all_goals omega

def Ar.many (A : Ar) (s : Sp) : Int × Int × Bool × Sp :=
  if (s.get (A.root + 1)).1 < 0 ∨ 4096 < (s.get (A.root + 1)).1 then ((s.get (A.root + 1)).1, 0, false, (s.get (A.root + 1)).2)
  else ((s.get (A.root + 1)).1, dep (s.get (A.root + 1)).1, decide (((s.get (A.root + 1)).2.get (A.root + 2)).1 = dep (s.get (A.root + 1)).1), ((s.get (A.root + 1)).2.get (A.root + 2)).2)
def Ar.node (A : Ar) (s : Sp) (cell : Int) : Int × Bool × Sp :=
  if (s.get cell).1 ≤ 0 ∨ 4096 < (s.get cell).1 then (0, false, (s.get cell).2) else ((s.get cell).1, A.pool.node (s.get cell).1, (s.get cell).2)
theorem Ar.node_bd (A : Ar) (s : Sp) (cell : Int) : 0 ≤ (A.node s cell).1 ∧ (A.node s cell).1 ≤ 4096 := by
  unfold Ar.node; split
  · simp
  · simp; omega
def Ar.take (A : Ar) (s : Sp) : Int × Int × Sp :=
  if (A.pool.take s).2.1 = 0 then ((A.pool.take s).1, (A.pool.take s).2.1, ((A.pool.take s).2.2.get (A.root + 7)).2.put (A.root + 7) (w64 (((A.pool.take s).2.2.get (A.root + 7)).1 + 1)))
  else ((A.pool.take s).1, (A.pool.take s).2.1, (A.pool.take s).2.2)
/-- The path to an element. -/
def Ar.way (A : Ar) (i : Int) : Nat → Int → Sp → List Int → Option (List Int) × Sp
  | 0, _, s, acc => (some acc, s)
  | d + 1, cell, s, acc =>
    if (A.node s cell).2.1 then A.way i d ((A.node s cell).1 + dig i (d + 1)) (A.node s cell).2.2 (acc ++ [(A.node s cell).1])
    else (none, (A.node s cell).2.2)

theorem sm_add {P : Pl} {s : Sp} {j : Nat} {a v : Int} (h : Sm s (j + 1)) : Sm (P.add s a v) j := sm_put (sm_get h)
theorem sm_poolTake {P : Pl} {s : Sp} {j : Nat} (h : Sm s (j + 2)) : Sm (P.take s).2.2 j := by
  unfold Pl.take
  split
  · split
    · exact sm_add (sm_put (sm_get (sm_get h)))
    · exact (sm_get h).mono (by omega)
  · split
    · exact (sm_get (sm_get h)).mono (by omega)
    · exact (sm_put (sm_get (sm_get h))).mono (by omega)
theorem sm_give {P : Pl} {s : Sp} {j : Nat} {a : Int} (h : Sm s (j + 3)) : Sm (P.give s a).2 j := by
  unfold Pl.give
  split
  · exact sm_add (sm_put (sm_put (sm_get h)))
  · exact h.mono (by omega)
theorem sm_left {P : Pl} {s : Sp} {j : Nat} (h : Sm s j) : Sm (P.left s).2 j := sm_get (sm_get h)
theorem sm_many {A : Ar} {s : Sp} {j : Nat} (h : Sm s j) : Sm (A.many s).2.2.2 j := by
  unfold Ar.many; split
  · exact sm_get h
  · exact sm_get (sm_get h)
theorem sm_node {A : Ar} {s : Sp} {j : Nat} {c : Int} (h : Sm s j) : Sm (A.node s c).2.2 j := by
  unfold Ar.node; split <;> exact sm_get h
theorem sm_take {A : Ar} {s : Sp} {j : Nat} (h : Sm s (j + 3)) : Sm (A.take s).2.2 j := by
  unfold Ar.take; split
  · exact sm_put (sm_get (sm_poolTake h))
  · exact (sm_poolTake h).mono (by omega)
theorem sm_way {A : Ar} {i : Int} : ∀ {d : Nat} {c : Int} {s : Sp} {acc : List Int} {j : Nat}, Sm s j → Sm (A.way i d c s acc).2 j
  | 0, _, _, _, _, h => h
  | d + 1, c, s, acc, j, h => by
    simp only [Ar.way]; split
    · exact sm_way (sm_node h)
    · exact sm_node h
end Sim

/- The walks of package array, the small ones. -/
namespace Go.Proofs.YtilnknokgflkjaaDoor
open Go.Vc Sim
set_option maxHeartbeats 4000000

def powL : List Value := [.int .i64 1, .int .i64 8, .int .i64 64, .int .i64 512, .int .i64 4096]
def PowOk (w0 : World) : Prop := ∃ T fr, w0.heap[0]? = some (.cells (List.toArray powL) T fr)
theorem powL_rd (d : Nat) (hd : d ≤ 4) (o : Nat) (ho : o = d) : rd false 1 powL o = some (.int .i64 (pw d)) := by
  subst ho
  match o, hd with
  | 0, _ => rfl
  | 1, _ => rfl
  | 2, _ => rfl
  | 3, _ => rfl
  | 4, _ => rfl
def arrV (A : Ar) : Value := .agg #[.int .i64 A.pool.root, .int .i64 A.pool.frm, .int .i64 A.pool.nodes, .int .i64 A.root]

theorem depth_spec (w0 : World) (hw : PowOk w0) (m : Int) : FnE PP w0 [] 27 [.int .i64 m] [] (.int .i64 (dep m)) [] := by
  obtain ⟨T, fr, hw⟩ := hw
  refine fn_of_run en27 fn27 rfl rfl rfl ?_ -- @@FN 27
  repeat' (first
    | refine run_seq ?_
    | refine run_region (by kernel_rfl) ?_
    | refine run_drawA PP_mixed (by kernel_rfl) (by kernel_rfl) ?_
    | refine run_skip ?_
    | refine run_block ?_
    | refine run_inBlock ?_
    | refine run_inLoop ?_
    | refine run_exit rfl ?_
    | (refine reg_cons rfl ?_; first
        | ((with_reducible refine tag_guard ?_); first | refine reg_guard_in rfl ?_ | refine reg_guard_out rfl ?_ | refine reg_guard_none rfl ?_ | refine reg_guard rfl rfl (fun _ => ?_) (fun _ => ?_))
        | ((with_reducible refine tag_move ?_); refine reg_pure rfl ?_)
        | ((with_reducible refine tag_assign ?_); refine reg_pure rfl ?_)
        | ((with_reducible refine tag_load ?_); first | refine reg_load_sh 0 rfl rfl rfl ?_ | refine reg_load_sh 1 rfl rfl rfl ?_ | refine reg_load_sh 2 rfl rfl rfl ?_ | refine reg_load_sh 3 rfl rfl rfl ?_ | refine reg_load_sh 4 rfl rfl rfl ?_ | refine reg_load_sh 5 rfl rfl rfl ?_ | refine reg_load_pt 0 rfl rfl rfl ?_ | refine reg_load_pt 1 rfl rfl rfl ?_ | refine reg_load_pt 2 rfl rfl rfl ?_ | refine reg_load_pt 3 rfl rfl rfl ?_ | refine reg_load_pt 4 rfl rfl rfl ?_ | refine reg_load_pt 5 rfl rfl rfl ?_)
        | ((with_reducible refine tag_bin ?_); first | refine reg_add64 rfl rfl (by omega) ?_ | refine reg_eql rfl rfl ?_ | refine reg_lss rfl rfl ?_ | refine reg_eq_nil rfl rfl ?_ | refine reg_eqB rfl rfl ?_)
        | ((with_reducible refine tag_pick ?_); first | refine reg_pickT rfl ?_ | refine reg_pickF rfl ?_ | refine reg_pick rfl rfl rfl ?_)
        | ((with_reducible refine tag_index ?_); first | refine reg_index_slice rfl rfl (by omega) ?_ | refine reg_index_array rfl rfl (by omega) ?_))
    | refine reg_nil ?_
    | refine run_condT rfl ?_
    | refine run_condF rfl ?_)
  refine run_cond rfl (fun hE => ?_) (fun hE => ?_)
  · repeat' (first
      | refine run_seq ?_
      | refine run_region (by kernel_rfl) ?_
      | refine run_drawA PP_mixed (by kernel_rfl) (by kernel_rfl) ?_
      | refine run_skip ?_
      | refine run_block ?_
      | refine run_inBlock ?_
      | refine run_inLoop ?_
      | refine run_exit rfl ?_
      | (refine reg_cons rfl ?_; first
          | ((with_reducible refine tag_guard ?_); first | refine reg_guard_in rfl ?_ | refine reg_guard_out rfl ?_ | refine reg_guard_none rfl ?_ | refine reg_guard rfl rfl (fun _ => ?_) (fun _ => ?_))
          | ((with_reducible refine tag_move ?_); refine reg_pure rfl ?_)
          | ((with_reducible refine tag_assign ?_); refine reg_pure rfl ?_)
          | ((with_reducible refine tag_load ?_); first | refine reg_load_sh 0 rfl rfl rfl ?_ | refine reg_load_sh 1 rfl rfl rfl ?_ | refine reg_load_sh 2 rfl rfl rfl ?_ | refine reg_load_sh 3 rfl rfl rfl ?_ | refine reg_load_sh 4 rfl rfl rfl ?_ | refine reg_load_sh 5 rfl rfl rfl ?_ | refine reg_load_pt 0 rfl rfl rfl ?_ | refine reg_load_pt 1 rfl rfl rfl ?_ | refine reg_load_pt 2 rfl rfl rfl ?_ | refine reg_load_pt 3 rfl rfl rfl ?_ | refine reg_load_pt 4 rfl rfl rfl ?_ | refine reg_load_pt 5 rfl rfl rfl ?_)
          | ((with_reducible refine tag_bin ?_); first | refine reg_add64 rfl rfl (by omega) ?_ | refine reg_eql rfl rfl ?_ | refine reg_lss rfl rfl ?_ | refine reg_eq_nil rfl rfl ?_ | refine reg_eqB rfl rfl ?_)
          | ((with_reducible refine tag_pick ?_); first | refine reg_pickT rfl ?_ | refine reg_pickF rfl ?_ | refine reg_pick rfl rfl rfl ?_)
          | ((with_reducible refine tag_index ?_); first | refine reg_index_slice rfl rfl (by omega) ?_ | refine reg_index_array rfl rfl (by omega) ?_))
      | refine reg_nil ?_
      | refine run_condT rfl ?_
      | refine run_condF rfl ?_)
    refine ret_tmp1 rfl ⟨?_, rfl⟩
    rw [hE]; rfl
  · repeat' (first
      | refine run_seq ?_
      | refine run_region (by kernel_rfl) ?_
      | refine run_drawA PP_mixed (by kernel_rfl) (by kernel_rfl) ?_
      | refine run_skip ?_
      | refine run_block ?_
      | refine run_inBlock ?_
      | refine run_inLoop ?_
      | refine run_exit rfl ?_
      | (refine reg_cons rfl ?_; first
          | ((with_reducible refine tag_guard ?_); first | refine reg_guard_in rfl ?_ | refine reg_guard_out rfl ?_ | refine reg_guard_none rfl ?_ | refine reg_guard rfl rfl (fun _ => ?_) (fun _ => ?_))
          | ((with_reducible refine tag_move ?_); refine reg_pure rfl ?_)
          | ((with_reducible refine tag_assign ?_); refine reg_pure rfl ?_)
          | ((with_reducible refine tag_load ?_); first | refine reg_load_sh 0 rfl rfl rfl ?_ | refine reg_load_sh 1 rfl rfl rfl ?_ | refine reg_load_sh 2 rfl rfl rfl ?_ | refine reg_load_sh 3 rfl rfl rfl ?_ | refine reg_load_sh 4 rfl rfl rfl ?_ | refine reg_load_sh 5 rfl rfl rfl ?_ | refine reg_load_pt 0 rfl rfl rfl ?_ | refine reg_load_pt 1 rfl rfl rfl ?_ | refine reg_load_pt 2 rfl rfl rfl ?_ | refine reg_load_pt 3 rfl rfl rfl ?_ | refine reg_load_pt 4 rfl rfl rfl ?_ | refine reg_load_pt 5 rfl rfl rfl ?_)
          | ((with_reducible refine tag_bin ?_); first | refine reg_add64 rfl rfl (by omega) ?_ | refine reg_eql rfl rfl ?_ | refine reg_lss rfl rfl ?_ | refine reg_eq_nil rfl rfl ?_ | refine reg_eqB rfl rfl ?_)
          | ((with_reducible refine tag_pick ?_); first | refine reg_pickT rfl ?_ | refine reg_pickF rfl ?_ | refine reg_pick rfl rfl rfl ?_)
          | ((with_reducible refine tag_index ?_); first | refine reg_index_slice rfl rfl (by omega) ?_ | refine reg_index_array rfl rfl (by omega) ?_))
      | refine reg_nil ?_
      | refine run_condT rfl ?_
      | refine run_condF rfl ?_)
    refine run_loop (S := Nat) (fun d => [(0, .int .i64 m), (3, .int .i64 d)]) (fun d Γ => Γ = [] ∧ 1 ≤ d ∧ d ≤ 4 ∧ d ≤ dep m) (fun d => 4 - d) 1 ⟨rfl, rfl, trivial⟩
      ⟨rfl, by decide, by decide, by unfold dep; rw [if_neg hE]; split <;> try split <;> try split
                                     all_goals omega⟩ ?_
    rintro d Γ junk ⟨rfl, h1, h2, h3⟩
    by_cases hd : d < 4
    · have dd : decide ((d : Int) < 4) = true := decide_eq_true (by omega)
      by_cases hm : pw d < m
      · have dm : decide (pw d < m) = true := decide_eq_true hm
        repeat' (first
          | refine run_seq ?_
          | refine run_region (by kernel_rfl) ?_
          | refine run_drawA PP_mixed (by kernel_rfl) (by kernel_rfl) ?_
          | refine run_skip ?_
          | refine run_block ?_
          | refine run_inBlock ?_
          | refine run_inLoop ?_
          | refine run_exit rfl ?_
          | (refine reg_cons rfl ?_; first
              | (refine reg_lss rfl rfl ?_; rw [dd])
              | (refine reg_lss rfl rfl ?_; rw [dm])
              | refine reg_load_base rfl hw (powL_rd d h2 _ (by omega)) ?_
              | ((with_reducible refine tag_guard ?_); first | refine reg_guard_in rfl ?_ | refine reg_guard_out rfl ?_ | refine reg_guard_none rfl ?_ | refine reg_guard rfl rfl (fun _ => ?_) (fun _ => ?_))
              | ((with_reducible refine tag_move ?_); refine reg_pure rfl ?_)
              | ((with_reducible refine tag_assign ?_); refine reg_pure rfl ?_)
              | ((with_reducible refine tag_load ?_); first | refine reg_load_sh 0 rfl rfl rfl ?_ | refine reg_load_sh 1 rfl rfl rfl ?_ | refine reg_load_sh 2 rfl rfl rfl ?_ | refine reg_load_sh 3 rfl rfl rfl ?_ | refine reg_load_sh 4 rfl rfl rfl ?_ | refine reg_load_sh 5 rfl rfl rfl ?_ | refine reg_load_pt 0 rfl rfl rfl ?_ | refine reg_load_pt 1 rfl rfl rfl ?_ | refine reg_load_pt 2 rfl rfl rfl ?_ | refine reg_load_pt 3 rfl rfl rfl ?_ | refine reg_load_pt 4 rfl rfl rfl ?_ | refine reg_load_pt 5 rfl rfl rfl ?_)
              | ((with_reducible refine tag_bin ?_); first | refine reg_add64 rfl rfl (by omega) ?_ | refine reg_eql rfl rfl ?_ | refine reg_lss rfl rfl ?_ | refine reg_eq_nil rfl rfl ?_ | refine reg_eqB rfl rfl ?_)
              | ((with_reducible refine tag_pick ?_); first | refine reg_pickT rfl ?_ | refine reg_pickF rfl ?_ | refine reg_pick rfl rfl rfl ?_)
              | ((with_reducible refine tag_index ?_); first | refine reg_index_slice rfl rfl (by omega) ?_ | refine reg_index_array rfl rfl (by omega) ?_))
          | refine reg_nil ?_
          | refine run_condT rfl ?_
          | refine run_condF rfl ?_)
        refine cut_end ⟨rfl, d + 1, ⟨rfl, int_eq (by omega), trivial⟩, ⟨rfl, by omega, by omega, ?_⟩, by omega⟩
        have : d = 1 ∨ d = 2 ∨ d = 3 := by omega
        unfold dep
        rcases this with rfl | rfl | rfl <;> simp only [pw] at hm
        all_goals (split <;> try split <;> try split <;> try split)
        all_goals omega
      · have dm : decide (pw d < m) = false := decide_eq_false hm
        repeat' (first
          | refine run_seq ?_
          | refine run_region (by kernel_rfl) ?_
          | refine run_drawA PP_mixed (by kernel_rfl) (by kernel_rfl) ?_
          | refine run_skip ?_
          | refine run_block ?_
          | refine run_inBlock ?_
          | refine run_inLoop ?_
          | refine run_exit rfl ?_
          | (refine reg_cons rfl ?_; first
              | (refine reg_lss rfl rfl ?_; rw [dd])
              | (refine reg_lss rfl rfl ?_; rw [dm])
              | refine reg_load_base rfl hw (powL_rd d h2 _ (by omega)) ?_
              | ((with_reducible refine tag_guard ?_); first | refine reg_guard_in rfl ?_ | refine reg_guard_out rfl ?_ | refine reg_guard_none rfl ?_ | refine reg_guard rfl rfl (fun _ => ?_) (fun _ => ?_))
              | ((with_reducible refine tag_move ?_); refine reg_pure rfl ?_)
              | ((with_reducible refine tag_assign ?_); refine reg_pure rfl ?_)
              | ((with_reducible refine tag_load ?_); first | refine reg_load_sh 0 rfl rfl rfl ?_ | refine reg_load_sh 1 rfl rfl rfl ?_ | refine reg_load_sh 2 rfl rfl rfl ?_ | refine reg_load_sh 3 rfl rfl rfl ?_ | refine reg_load_sh 4 rfl rfl rfl ?_ | refine reg_load_sh 5 rfl rfl rfl ?_ | refine reg_load_pt 0 rfl rfl rfl ?_ | refine reg_load_pt 1 rfl rfl rfl ?_ | refine reg_load_pt 2 rfl rfl rfl ?_ | refine reg_load_pt 3 rfl rfl rfl ?_ | refine reg_load_pt 4 rfl rfl rfl ?_ | refine reg_load_pt 5 rfl rfl rfl ?_)
              | ((with_reducible refine tag_bin ?_); first | refine reg_add64 rfl rfl (by omega) ?_ | refine reg_eql rfl rfl ?_ | refine reg_lss rfl rfl ?_ | refine reg_eq_nil rfl rfl ?_ | refine reg_eqB rfl rfl ?_)
              | ((with_reducible refine tag_pick ?_); first | refine reg_pickT rfl ?_ | refine reg_pickF rfl ?_ | refine reg_pick rfl rfl rfl ?_)
              | ((with_reducible refine tag_index ?_); first | refine reg_index_slice rfl rfl (by omega) ?_ | refine reg_index_array rfl rfl (by omega) ?_))
          | refine reg_nil ?_
          | refine run_condT rfl ?_
          | refine run_condF rfl ?_)
        refine cut_exit rfl rfl ?_
        repeat' (first
          | refine run_seq ?_
          | refine run_region (by kernel_rfl) ?_
          | refine run_drawA PP_mixed (by kernel_rfl) (by kernel_rfl) ?_
          | refine run_skip ?_
          | refine run_block ?_
          | refine run_inBlock ?_
          | refine run_inLoop ?_
          | refine run_exit rfl ?_
          | (refine reg_cons rfl ?_; first
              | ((with_reducible refine tag_guard ?_); first | refine reg_guard_in rfl ?_ | refine reg_guard_out rfl ?_ | refine reg_guard_none rfl ?_ | refine reg_guard rfl rfl (fun _ => ?_) (fun _ => ?_))
              | ((with_reducible refine tag_move ?_); refine reg_pure rfl ?_)
              | ((with_reducible refine tag_assign ?_); refine reg_pure rfl ?_)
              | ((with_reducible refine tag_load ?_); first | refine reg_load_sh 0 rfl rfl rfl ?_ | refine reg_load_sh 1 rfl rfl rfl ?_ | refine reg_load_sh 2 rfl rfl rfl ?_ | refine reg_load_sh 3 rfl rfl rfl ?_ | refine reg_load_sh 4 rfl rfl rfl ?_ | refine reg_load_sh 5 rfl rfl rfl ?_ | refine reg_load_pt 0 rfl rfl rfl ?_ | refine reg_load_pt 1 rfl rfl rfl ?_ | refine reg_load_pt 2 rfl rfl rfl ?_ | refine reg_load_pt 3 rfl rfl rfl ?_ | refine reg_load_pt 4 rfl rfl rfl ?_ | refine reg_load_pt 5 rfl rfl rfl ?_)
              | ((with_reducible refine tag_bin ?_); first | refine reg_add64 rfl rfl (by omega) ?_ | refine reg_eql rfl rfl ?_ | refine reg_lss rfl rfl ?_ | refine reg_eq_nil rfl rfl ?_ | refine reg_eqB rfl rfl ?_)
              | ((with_reducible refine tag_pick ?_); first | refine reg_pickT rfl ?_ | refine reg_pickF rfl ?_ | refine reg_pick rfl rfl rfl ?_)
              | ((with_reducible refine tag_index ?_); first | refine reg_index_slice rfl rfl (by omega) ?_ | refine reg_index_array rfl rfl (by omega) ?_))
          | refine reg_nil ?_
          | refine run_condT rfl ?_
          | refine run_condF rfl ?_)
        refine ret_tmp1 rfl ⟨int_eq ?_, rfl⟩
        have hc : d = 1 ∨ d = 2 ∨ d = 3 := by omega
        have : d = dep m := by
          unfold dep at h3 ⊢
          rcases hc with rfl | rfl | rfl <;> simp only [pw] at hm
          all_goals (split at h3 <;> try split at h3 <;> try split at h3 <;> try split at h3)
          all_goals (try split)
          all_goals (try split)
          all_goals (try split)
          all_goals (try split)
          all_goals omega
        rw [← this]
    · have dd : decide ((d : Int) < 4) = false := decide_eq_false (by omega)
      repeat' (first
        | refine run_seq ?_
        | refine run_region (by kernel_rfl) ?_
        | refine run_drawA PP_mixed (by kernel_rfl) (by kernel_rfl) ?_
        | refine run_skip ?_
        | refine run_block ?_
        | refine run_inBlock ?_
        | refine run_inLoop ?_
        | refine run_exit rfl ?_
        | (refine reg_cons rfl ?_; first
            | (refine reg_lss rfl rfl ?_; rw [dd])
            | ((with_reducible refine tag_guard ?_); first | refine reg_guard_in rfl ?_ | refine reg_guard_out rfl ?_ | refine reg_guard_none rfl ?_ | refine reg_guard rfl rfl (fun _ => ?_) (fun _ => ?_))
            | ((with_reducible refine tag_move ?_); refine reg_pure rfl ?_)
            | ((with_reducible refine tag_assign ?_); refine reg_pure rfl ?_)
            | ((with_reducible refine tag_load ?_); first | refine reg_load_sh 0 rfl rfl rfl ?_ | refine reg_load_sh 1 rfl rfl rfl ?_ | refine reg_load_sh 2 rfl rfl rfl ?_ | refine reg_load_sh 3 rfl rfl rfl ?_ | refine reg_load_sh 4 rfl rfl rfl ?_ | refine reg_load_sh 5 rfl rfl rfl ?_ | refine reg_load_pt 0 rfl rfl rfl ?_ | refine reg_load_pt 1 rfl rfl rfl ?_ | refine reg_load_pt 2 rfl rfl rfl ?_ | refine reg_load_pt 3 rfl rfl rfl ?_ | refine reg_load_pt 4 rfl rfl rfl ?_ | refine reg_load_pt 5 rfl rfl rfl ?_)
            | ((with_reducible refine tag_bin ?_); first | refine reg_add64 rfl rfl (by omega) ?_ | refine reg_eql rfl rfl ?_ | refine reg_lss rfl rfl ?_ | refine reg_eq_nil rfl rfl ?_ | refine reg_eqB rfl rfl ?_)
            | ((with_reducible refine tag_pick ?_); first | refine reg_pickT rfl ?_ | refine reg_pickF rfl ?_ | refine reg_pick rfl rfl rfl ?_)
            | ((with_reducible refine tag_index ?_); first | refine reg_index_slice rfl rfl (by omega) ?_ | refine reg_index_array rfl rfl (by omega) ?_))
        | refine reg_nil ?_
        | refine run_condT rfl ?_
        | refine run_condF rfl ?_)
      refine cut_exit rfl rfl ?_
      repeat' (first
        | refine run_seq ?_
        | refine run_region (by kernel_rfl) ?_
        | refine run_drawA PP_mixed (by kernel_rfl) (by kernel_rfl) ?_
        | refine run_skip ?_
        | refine run_block ?_
        | refine run_inBlock ?_
        | refine run_inLoop ?_
        | refine run_exit rfl ?_
        | (refine reg_cons rfl ?_; first
            | ((with_reducible refine tag_guard ?_); first | refine reg_guard_in rfl ?_ | refine reg_guard_out rfl ?_ | refine reg_guard_none rfl ?_ | refine reg_guard rfl rfl (fun _ => ?_) (fun _ => ?_))
            | ((with_reducible refine tag_move ?_); refine reg_pure rfl ?_)
            | ((with_reducible refine tag_assign ?_); refine reg_pure rfl ?_)
            | ((with_reducible refine tag_load ?_); first | refine reg_load_sh 0 rfl rfl rfl ?_ | refine reg_load_sh 1 rfl rfl rfl ?_ | refine reg_load_sh 2 rfl rfl rfl ?_ | refine reg_load_sh 3 rfl rfl rfl ?_ | refine reg_load_sh 4 rfl rfl rfl ?_ | refine reg_load_sh 5 rfl rfl rfl ?_ | refine reg_load_pt 0 rfl rfl rfl ?_ | refine reg_load_pt 1 rfl rfl rfl ?_ | refine reg_load_pt 2 rfl rfl rfl ?_ | refine reg_load_pt 3 rfl rfl rfl ?_ | refine reg_load_pt 4 rfl rfl rfl ?_ | refine reg_load_pt 5 rfl rfl rfl ?_)
            | ((with_reducible refine tag_bin ?_); first | refine reg_add64 rfl rfl (by omega) ?_ | refine reg_eql rfl rfl ?_ | refine reg_lss rfl rfl ?_ | refine reg_eq_nil rfl rfl ?_ | refine reg_eqB rfl rfl ?_)
            | ((with_reducible refine tag_pick ?_); first | refine reg_pickT rfl ?_ | refine reg_pickF rfl ?_ | refine reg_pick rfl rfl rfl ?_)
            | ((with_reducible refine tag_index ?_); first | refine reg_index_slice rfl rfl (by omega) ?_ | refine reg_index_array rfl rfl (by omega) ?_))
        | refine reg_nil ?_
        | refine run_condT rfl ?_
        | refine run_condF rfl ?_)
      refine ret_tmp1 rfl ⟨int_eq ?_, rfl⟩
      have := dep_le m
      omega

theorem digit_spec (w0 : World) (hw : PowOk w0) (m : Int) (d : Nat) (hm : 0 ≤ m ∧ m ≤ 4096) (hd : 1 ≤ d ∧ d ≤ 4) (dI : Int) (hdI : dI = d) : FnE PP w0 [] 32 [.int .i64 m, .int .i64 dI] [] (.int .i64 (dig m d)) [] := by
  subst hdI
  obtain ⟨T, fr, hw⟩ := hw
  have hp := pw_pos (d - 1)
  have hq : m / pw (d - 1) ≤ m := Int.ediv_le_self _ hm.1
  have hq0 : 0 ≤ m / pw (d - 1) := Int.ediv_nonneg hm.1 (by omega)
  refine fn_of_run en32 fn32 rfl rfl rfl ?_ -- @@FN 32
  repeat' (first
    | refine run_seq ?_
    | refine run_region (by kernel_rfl) ?_
    | refine run_drawA PP_mixed (by kernel_rfl) (by kernel_rfl) ?_
    | refine run_skip ?_
    | refine run_block ?_
    | refine run_inBlock ?_
    | refine run_inLoop ?_
    | refine run_exit rfl ?_
    | (refine reg_cons rfl ?_; first
        | refine reg_load_base rfl hw (powL_rd (d - 1) (by omega) _ (by omega)) ?_
        | ((with_reducible refine tag_move ?_); refine reg_pure rfl ?_)
        | ((with_reducible refine tag_assign ?_); refine reg_pure rfl ?_)
        | ((with_reducible refine tag_load ?_); first | refine reg_load_sh 0 rfl rfl rfl ?_ | refine reg_load_sh 1 rfl rfl rfl ?_ | refine reg_load_sh 2 rfl rfl rfl ?_ | refine reg_load_sh 3 rfl rfl rfl ?_ | refine reg_load_sh 4 rfl rfl rfl ?_ | refine reg_load_sh 5 rfl rfl rfl ?_ | refine reg_load_pt 0 rfl rfl rfl ?_ | refine reg_load_pt 1 rfl rfl rfl ?_ | refine reg_load_pt 2 rfl rfl rfl ?_ | refine reg_load_pt 3 rfl rfl rfl ?_ | refine reg_load_pt 4 rfl rfl rfl ?_ | refine reg_load_pt 5 rfl rfl rfl ?_)
        | ((with_reducible refine tag_bin ?_); first | refine reg_sub64 rfl rfl (by omega) ?_ | refine reg_quo64 rfl rfl (by omega) ?_ | refine reg_rem64 rfl rfl (by omega) ?_)
        | ((with_reducible refine tag_index ?_); first | refine reg_index_slice rfl rfl (by omega) ?_ | refine reg_index_array rfl rfl (by omega) ?_))
    | refine reg_nil ?_
    | refine run_condT rfl ?_
    | refine run_condF rfl ?_)
  exact ret_tmp1 rfl ⟨rfl, rfl⟩
end Go.Proofs.YtilnknokgflkjaaDoor

/- The walks of package array: node, many, Len, take. -/
namespace Go.Proofs.YtilnknokgflkjaaDoor
open Go.Vc Sim
set_option maxHeartbeats 4000000

theorem anode_spec (w0 : World) (p : Nat) (A : Ar) (hA : A.Ok) (s : Sp) (c : Int) (hsm : Sm s 0) : FnE PP w0 [] 29 [arrV A, spP p, .int .i64 c] [SpaceA p s]
    (.tuple #[.int .i64 (A.node s c).1, .bool (A.node s c).2.1]) [SpaceA p (A.node s c).2.2] := by
  refine fn_of_run en29 fn29 rfl rfl rfl ?_ -- @@FN 29
  repeat (first | refine run_seq ?_ | refine run_block ?_ | refine run_skip ?_ | refine run_inBlock ?_)
  first | refine run_region (by kernel_rfl) ?_ | refine run_drawA PP_mixed (by kernel_rfl) (by kernel_rfl) ?_
  repeat' (refine reg_cons rfl ?_; first
        | ((with_reducible refine tag_guard ?_); first | refine reg_guard_in rfl ?_ | refine reg_guard_out rfl ?_ | refine reg_guard_none rfl ?_ | refine reg_guard rfl rfl (fun _ => ?_) (fun _ => ?_))
        | ((with_reducible refine tag_move ?_); refine reg_pure rfl ?_)
        | ((with_reducible refine tag_assign ?_); refine reg_pure rfl ?_)
        | ((with_reducible refine tag_load ?_); first | refine reg_load_sh 0 rfl rfl rfl ?_ | refine reg_load_sh 1 rfl rfl rfl ?_ | refine reg_load_sh 2 rfl rfl rfl ?_ | refine reg_load_sh 3 rfl rfl rfl ?_ | refine reg_load_sh 4 rfl rfl rfl ?_ | refine reg_load_sh 5 rfl rfl rfl ?_ | refine reg_load_pt 0 rfl rfl rfl ?_ | refine reg_load_pt 1 rfl rfl rfl ?_ | refine reg_load_pt 2 rfl rfl rfl ?_ | refine reg_load_pt 3 rfl rfl rfl ?_ | refine reg_load_pt 4 rfl rfl rfl ?_ | refine reg_load_pt 5 rfl rfl rfl ?_)
        | ((with_reducible refine tag_field ?_); refine reg_field rfl ?_)
        | ((with_reducible refine tag_extract ?_); refine reg_pure rfl ?_)
        | ((with_reducible refine tag_bin ?_); first | refine reg_leq rfl rfl ?_ | refine reg_gtr rfl rfl ?_)
        | ((with_reducible refine tag_pick ?_); first | refine reg_pickT rfl ?_ | refine reg_pickF rfl ?_ | refine reg_pick rfl rfl rfl ?_)
        | ((with_reducible refine tag_box ?_); first | refine reg_box (cs := [_]) rfl (fun nb => ?_) | refine reg_box (cs := [_, _]) rfl (fun nb => ?_) | refine reg_box (cs := [_, _, _]) rfl (fun nb => ?_) | refine reg_box (cs := [_, _, _, _]) rfl (fun nb => ?_) | refine reg_box (cs := [_, _, _, _, _]) rfl (fun nb => ?_) | refine reg_box (cs := [_, _, _, _, _, _]) rfl (fun nb => ?_) | refine reg_box (cs := [_, _, _, _, _, _, _]) rfl (fun nb => ?_) | refine reg_box (cs := [_, _, _, _, _, _, _, _]) rfl (fun nb => ?_)))
  all_goals refine reg_nil ?_
  all_goals repeat (first | refine run_seq ?_ | refine run_block ?_ | refine run_skip ?_ | refine run_inBlock ?_)
  refine run_share [1] rfl ?_
  repeat (first | refine run_seq ?_ | refine run_block ?_ | refine run_skip ?_ | refine run_inBlock ?_)
  first | refine run_region (by kernel_rfl) ?_ | refine run_drawA PP_mixed (by kernel_rfl) (by kernel_rfl) ?_
  repeat' (refine reg_cons rfl ?_; first
        | ((with_reducible refine tag_guard ?_); first | refine reg_guard_in rfl ?_ | refine reg_guard_out rfl ?_ | refine reg_guard_none rfl ?_ | refine reg_guard rfl rfl (fun _ => ?_) (fun _ => ?_))
        | ((with_reducible refine tag_move ?_); refine reg_pure rfl ?_)
        | ((with_reducible refine tag_assign ?_); refine reg_pure rfl ?_)
        | ((with_reducible refine tag_load ?_); first | refine reg_load_sh 0 rfl rfl rfl ?_ | refine reg_load_sh 1 rfl rfl rfl ?_ | refine reg_load_sh 2 rfl rfl rfl ?_ | refine reg_load_sh 3 rfl rfl rfl ?_ | refine reg_load_sh 4 rfl rfl rfl ?_ | refine reg_load_sh 5 rfl rfl rfl ?_ | refine reg_load_pt 0 rfl rfl rfl ?_ | refine reg_load_pt 1 rfl rfl rfl ?_ | refine reg_load_pt 2 rfl rfl rfl ?_ | refine reg_load_pt 3 rfl rfl rfl ?_ | refine reg_load_pt 4 rfl rfl rfl ?_ | refine reg_load_pt 5 rfl rfl rfl ?_)
        | ((with_reducible refine tag_call ?_); refine reg_callE [0] (getS w0 p _ _ (by first | exact hsm.mono (by decide) | (repeat (first | refine sm_get ?_ | refine sm_put ?_ | refine sm_node ?_ | refine sm_take ?_ | refine sm_many ?_ | refine sm_way ?_ | refine sm_poolTake ?_ | refine sm_give ?_)); exact hsm.mono (by decide))) rfl rfl rfl sub_nil rfl ?_)
        | ((with_reducible refine tag_field ?_); refine reg_field rfl ?_)
        | ((with_reducible refine tag_extract ?_); refine reg_pure rfl ?_)
        | ((with_reducible refine tag_bin ?_); first | refine reg_leq rfl rfl ?_ | refine reg_gtr rfl rfl ?_)
        | ((with_reducible refine tag_pick ?_); first | refine reg_pickT rfl ?_ | refine reg_pickF rfl ?_ | refine reg_pick rfl rfl rfl ?_)
        | ((with_reducible refine tag_box ?_); first | refine reg_box (cs := [_]) rfl (fun nb => ?_) | refine reg_box (cs := [_, _]) rfl (fun nb => ?_) | refine reg_box (cs := [_, _, _]) rfl (fun nb => ?_) | refine reg_box (cs := [_, _, _, _]) rfl (fun nb => ?_) | refine reg_box (cs := [_, _, _, _, _]) rfl (fun nb => ?_) | refine reg_box (cs := [_, _, _, _, _, _]) rfl (fun nb => ?_) | refine reg_box (cs := [_, _, _, _, _, _, _]) rfl (fun nb => ?_) | refine reg_box (cs := [_, _, _, _, _, _, _, _]) rfl (fun nb => ?_)))
  all_goals refine reg_nil ?_
  all_goals repeat (first | refine run_seq ?_ | refine run_block ?_ | refine run_skip ?_ | refine run_inBlock ?_)
  by_cases h0 : (s.get c).1 ≤ 0
  · have d0 : decide ((s.get c).1 ≤ 0) = true := decide_eq_true h0
    have e : A.node s c = (0, false, (s.get c).2) := by simp [Ar.node, h0]
    repeat' (first
      | refine run_seq ?_
      | refine run_region (by kernel_rfl) ?_
      | refine run_drawA PP_mixed (by kernel_rfl) (by kernel_rfl) ?_
      | refine run_skip ?_
      | refine run_block ?_
      | refine run_inBlock ?_
      | refine run_inLoop ?_
      | refine run_exit rfl ?_
      | (refine reg_cons rfl ?_; first
          | (refine reg_leq rfl rfl ?_; rw [d0])
          | ((with_reducible refine tag_guard ?_); first | refine reg_guard_in rfl ?_ | refine reg_guard_out rfl ?_ | refine reg_guard_none rfl ?_ | refine reg_guard rfl rfl (fun _ => ?_) (fun _ => ?_))
          | ((with_reducible refine tag_move ?_); refine reg_pure rfl ?_)
          | ((with_reducible refine tag_assign ?_); refine reg_pure rfl ?_)
          | ((with_reducible refine tag_load ?_); first | refine reg_load_sh 0 rfl rfl rfl ?_ | refine reg_load_sh 1 rfl rfl rfl ?_ | refine reg_load_sh 2 rfl rfl rfl ?_ | refine reg_load_sh 3 rfl rfl rfl ?_ | refine reg_load_sh 4 rfl rfl rfl ?_ | refine reg_load_sh 5 rfl rfl rfl ?_ | refine reg_load_pt 0 rfl rfl rfl ?_ | refine reg_load_pt 1 rfl rfl rfl ?_ | refine reg_load_pt 2 rfl rfl rfl ?_ | refine reg_load_pt 3 rfl rfl rfl ?_ | refine reg_load_pt 4 rfl rfl rfl ?_ | refine reg_load_pt 5 rfl rfl rfl ?_)
          | ((with_reducible refine tag_field ?_); refine reg_field rfl ?_)
          | ((with_reducible refine tag_extract ?_); refine reg_pure rfl ?_)
          | ((with_reducible refine tag_bin ?_); first | refine reg_leq rfl rfl ?_ | refine reg_gtr rfl rfl ?_)
          | ((with_reducible refine tag_pick ?_); first | refine reg_pickT rfl ?_ | refine reg_pickF rfl ?_ | refine reg_pick rfl rfl rfl ?_)
          | ((with_reducible refine tag_box ?_); first | refine reg_box (cs := [_]) rfl (fun nb => ?_) | refine reg_box (cs := [_, _]) rfl (fun nb => ?_) | refine reg_box (cs := [_, _, _]) rfl (fun nb => ?_) | refine reg_box (cs := [_, _, _, _]) rfl (fun nb => ?_) | refine reg_box (cs := [_, _, _, _, _]) rfl (fun nb => ?_) | refine reg_box (cs := [_, _, _, _, _, _]) rfl (fun nb => ?_) | refine reg_box (cs := [_, _, _, _, _, _, _]) rfl (fun nb => ?_) | refine reg_box (cs := [_, _, _, _, _, _, _, _]) rfl (fun nb => ?_)))
      | refine reg_nil ?_
      | refine run_condT rfl ?_
      | refine run_condF rfl ?_)
    rw [e]
    exact ret_tmp2 rfl ⟨rfl, rfl⟩
  · have d0 : decide ((s.get c).1 ≤ 0) = false := decide_eq_false h0
    by_cases h1 : 4096 < (s.get c).1
    · have d1 : decide (4096 < (s.get c).1) = true := decide_eq_true h1
      have e : A.node s c = (0, false, (s.get c).2) := by simp [Ar.node, h1]
      repeat' (first
        | refine run_seq ?_
        | refine run_region (by kernel_rfl) ?_
        | refine run_drawA PP_mixed (by kernel_rfl) (by kernel_rfl) ?_
        | refine run_skip ?_
        | refine run_block ?_
        | refine run_inBlock ?_
        | refine run_inLoop ?_
        | refine run_exit rfl ?_
        | (refine reg_cons rfl ?_; first
            | (refine reg_leq rfl rfl ?_; rw [d0])
            | (refine reg_gtr rfl rfl ?_; rw [d1])
            | ((with_reducible refine tag_guard ?_); first | refine reg_guard_in rfl ?_ | refine reg_guard_out rfl ?_ | refine reg_guard_none rfl ?_ | refine reg_guard rfl rfl (fun _ => ?_) (fun _ => ?_))
            | ((with_reducible refine tag_move ?_); refine reg_pure rfl ?_)
            | ((with_reducible refine tag_assign ?_); refine reg_pure rfl ?_)
            | ((with_reducible refine tag_load ?_); first | refine reg_load_sh 0 rfl rfl rfl ?_ | refine reg_load_sh 1 rfl rfl rfl ?_ | refine reg_load_sh 2 rfl rfl rfl ?_ | refine reg_load_sh 3 rfl rfl rfl ?_ | refine reg_load_sh 4 rfl rfl rfl ?_ | refine reg_load_sh 5 rfl rfl rfl ?_ | refine reg_load_pt 0 rfl rfl rfl ?_ | refine reg_load_pt 1 rfl rfl rfl ?_ | refine reg_load_pt 2 rfl rfl rfl ?_ | refine reg_load_pt 3 rfl rfl rfl ?_ | refine reg_load_pt 4 rfl rfl rfl ?_ | refine reg_load_pt 5 rfl rfl rfl ?_)
            | ((with_reducible refine tag_field ?_); refine reg_field rfl ?_)
            | ((with_reducible refine tag_extract ?_); refine reg_pure rfl ?_)
            | ((with_reducible refine tag_bin ?_); first | refine reg_leq rfl rfl ?_ | refine reg_gtr rfl rfl ?_)
            | ((with_reducible refine tag_pick ?_); first | refine reg_pickT rfl ?_ | refine reg_pickF rfl ?_ | refine reg_pick rfl rfl rfl ?_)
            | ((with_reducible refine tag_box ?_); first | refine reg_box (cs := [_]) rfl (fun nb => ?_) | refine reg_box (cs := [_, _]) rfl (fun nb => ?_) | refine reg_box (cs := [_, _, _]) rfl (fun nb => ?_) | refine reg_box (cs := [_, _, _, _]) rfl (fun nb => ?_) | refine reg_box (cs := [_, _, _, _, _]) rfl (fun nb => ?_) | refine reg_box (cs := [_, _, _, _, _, _]) rfl (fun nb => ?_) | refine reg_box (cs := [_, _, _, _, _, _, _]) rfl (fun nb => ?_) | refine reg_box (cs := [_, _, _, _, _, _, _, _]) rfl (fun nb => ?_)))
        | refine reg_nil ?_
        | refine run_condT rfl ?_
        | refine run_condF rfl ?_)
      rw [e]
      exact ret_tmp2 rfl ⟨rfl, rfl⟩
    · have d1 : decide (4096 < (s.get c).1) = false := decide_eq_false h1
      have e : A.node s c = ((s.get c).1, A.pool.node (s.get c).1, (s.get c).2) := by simp [Ar.node, h0, h1]
      repeat' (first
        | refine run_seq ?_
        | refine run_region (by kernel_rfl) ?_
        | refine run_drawA PP_mixed (by kernel_rfl) (by kernel_rfl) ?_
        | refine run_skip ?_
        | refine run_block ?_
        | refine run_inBlock ?_
        | refine run_inLoop ?_
        | refine run_exit rfl ?_
        | (refine reg_cons rfl ?_; first
            | (refine reg_leq rfl rfl ?_; rw [d0])
            | (refine reg_gtr rfl rfl ?_; rw [d1])
            | ((with_reducible refine tag_guard ?_); first | refine reg_guard_in rfl ?_ | refine reg_guard_out rfl ?_ | refine reg_guard_none rfl ?_ | refine reg_guard rfl rfl (fun _ => ?_) (fun _ => ?_))
            | ((with_reducible refine tag_move ?_); refine reg_pure rfl ?_)
            | ((with_reducible refine tag_assign ?_); refine reg_pure rfl ?_)
            | ((with_reducible refine tag_load ?_); first | refine reg_load_sh 0 rfl rfl rfl ?_ | refine reg_load_sh 1 rfl rfl rfl ?_ | refine reg_load_sh 2 rfl rfl rfl ?_ | refine reg_load_sh 3 rfl rfl rfl ?_ | refine reg_load_sh 4 rfl rfl rfl ?_ | refine reg_load_sh 5 rfl rfl rfl ?_ | refine reg_load_pt 0 rfl rfl rfl ?_ | refine reg_load_pt 1 rfl rfl rfl ?_ | refine reg_load_pt 2 rfl rfl rfl ?_ | refine reg_load_pt 3 rfl rfl rfl ?_ | refine reg_load_pt 4 rfl rfl rfl ?_ | refine reg_load_pt 5 rfl rfl rfl ?_)
            | ((with_reducible refine tag_call ?_); refine reg_callE [] (node_spec w0 A.pool hA.1 _) rfl rfl rfl sub_nil rfl ?_)
            | ((with_reducible refine tag_field ?_); refine reg_field rfl ?_)
            | ((with_reducible refine tag_extract ?_); refine reg_pure rfl ?_)
            | ((with_reducible refine tag_bin ?_); first | refine reg_leq rfl rfl ?_ | refine reg_gtr rfl rfl ?_)
            | ((with_reducible refine tag_pick ?_); first | refine reg_pickT rfl ?_ | refine reg_pickF rfl ?_ | refine reg_pick rfl rfl rfl ?_)
            | ((with_reducible refine tag_box ?_); first | refine reg_box (cs := [_]) rfl (fun nb => ?_) | refine reg_box (cs := [_, _]) rfl (fun nb => ?_) | refine reg_box (cs := [_, _, _]) rfl (fun nb => ?_) | refine reg_box (cs := [_, _, _, _]) rfl (fun nb => ?_) | refine reg_box (cs := [_, _, _, _, _]) rfl (fun nb => ?_) | refine reg_box (cs := [_, _, _, _, _, _]) rfl (fun nb => ?_) | refine reg_box (cs := [_, _, _, _, _, _, _]) rfl (fun nb => ?_) | refine reg_box (cs := [_, _, _, _, _, _, _, _]) rfl (fun nb => ?_)))
        | refine reg_nil ?_
        | refine run_condT rfl ?_
        | refine run_condF rfl ?_)
      rw [e]
      exact ret_tmp2 rfl ⟨rfl, rfl⟩

theorem len_spec (w0 : World) (p : Nat) (A : Ar) (hA : A.Ok) (s : Sp) (hsm : Sm s 0) : FnE PP w0 [] 14 [arrV A, spP p] [SpaceA p s]
    (.int .i64 (s.get (A.root + 1)).1) [SpaceA p (s.get (A.root + 1)).2] := by
  obtain ⟨_, h1, h2⟩ := id hA
  refine fn_of_run en14 fn14 rfl rfl rfl ?_ -- @@FN 14
  repeat (first | refine run_seq ?_ | refine run_block ?_ | refine run_skip ?_ | refine run_inBlock ?_)
  first | refine run_region (by kernel_rfl) ?_ | refine run_drawA PP_mixed (by kernel_rfl) (by kernel_rfl) ?_
  repeat' (refine reg_cons rfl ?_; first
        | ((with_reducible refine tag_move ?_); refine reg_pure rfl ?_)
        | ((with_reducible refine tag_assign ?_); refine reg_pure rfl ?_)
        | ((with_reducible refine tag_load ?_); first | refine reg_load_sh 0 rfl rfl rfl ?_ | refine reg_load_sh 1 rfl rfl rfl ?_ | refine reg_load_sh 2 rfl rfl rfl ?_ | refine reg_load_sh 3 rfl rfl rfl ?_ | refine reg_load_sh 4 rfl rfl rfl ?_ | refine reg_load_sh 5 rfl rfl rfl ?_ | refine reg_load_pt 0 rfl rfl rfl ?_ | refine reg_load_pt 1 rfl rfl rfl ?_ | refine reg_load_pt 2 rfl rfl rfl ?_ | refine reg_load_pt 3 rfl rfl rfl ?_ | refine reg_load_pt 4 rfl rfl rfl ?_ | refine reg_load_pt 5 rfl rfl rfl ?_)
        | ((with_reducible refine tag_field ?_); refine reg_field rfl ?_)
        | ((with_reducible refine tag_bin ?_); refine reg_add64 rfl rfl (by omega) ?_)
        | ((with_reducible refine tag_box ?_); first | refine reg_box (cs := [_]) rfl (fun nb => ?_) | refine reg_box (cs := [_, _]) rfl (fun nb => ?_) | refine reg_box (cs := [_, _, _]) rfl (fun nb => ?_) | refine reg_box (cs := [_, _, _, _]) rfl (fun nb => ?_) | refine reg_box (cs := [_, _, _, _, _]) rfl (fun nb => ?_) | refine reg_box (cs := [_, _, _, _, _, _]) rfl (fun nb => ?_) | refine reg_box (cs := [_, _, _, _, _, _, _]) rfl (fun nb => ?_) | refine reg_box (cs := [_, _, _, _, _, _, _, _]) rfl (fun nb => ?_)))
  all_goals refine reg_nil ?_
  all_goals repeat (first | refine run_seq ?_ | refine run_block ?_ | refine run_skip ?_ | refine run_inBlock ?_)
  refine run_share [1] rfl ?_
  repeat' (first
    | refine run_seq ?_
    | refine run_region (by kernel_rfl) ?_
    | refine run_drawA PP_mixed (by kernel_rfl) (by kernel_rfl) ?_
    | refine run_skip ?_
    | refine run_block ?_
    | refine run_inBlock ?_
    | refine run_inLoop ?_
    | refine run_exit rfl ?_
    | (refine reg_cons rfl ?_; first
        | ((with_reducible refine tag_move ?_); refine reg_pure rfl ?_)
        | ((with_reducible refine tag_assign ?_); refine reg_pure rfl ?_)
        | ((with_reducible refine tag_load ?_); first | refine reg_load_sh 0 rfl rfl rfl ?_ | refine reg_load_sh 1 rfl rfl rfl ?_ | refine reg_load_sh 2 rfl rfl rfl ?_ | refine reg_load_sh 3 rfl rfl rfl ?_ | refine reg_load_sh 4 rfl rfl rfl ?_ | refine reg_load_sh 5 rfl rfl rfl ?_ | refine reg_load_pt 0 rfl rfl rfl ?_ | refine reg_load_pt 1 rfl rfl rfl ?_ | refine reg_load_pt 2 rfl rfl rfl ?_ | refine reg_load_pt 3 rfl rfl rfl ?_ | refine reg_load_pt 4 rfl rfl rfl ?_ | refine reg_load_pt 5 rfl rfl rfl ?_)
        | ((with_reducible refine tag_call ?_); refine reg_callE [0] (getS w0 p _ _ (by first | exact hsm.mono (by decide) | (repeat (first | refine sm_get ?_ | refine sm_put ?_ | refine sm_node ?_ | refine sm_take ?_ | refine sm_many ?_ | refine sm_way ?_ | refine sm_poolTake ?_ | refine sm_give ?_)); exact hsm.mono (by decide))) rfl rfl rfl sub_nil rfl ?_)
        | ((with_reducible refine tag_field ?_); refine reg_field rfl ?_)
        | ((with_reducible refine tag_bin ?_); refine reg_add64 rfl rfl (by omega) ?_)
        | ((with_reducible refine tag_box ?_); first | refine reg_box (cs := [_]) rfl (fun nb => ?_) | refine reg_box (cs := [_, _]) rfl (fun nb => ?_) | refine reg_box (cs := [_, _, _]) rfl (fun nb => ?_) | refine reg_box (cs := [_, _, _, _]) rfl (fun nb => ?_) | refine reg_box (cs := [_, _, _, _, _]) rfl (fun nb => ?_) | refine reg_box (cs := [_, _, _, _, _, _]) rfl (fun nb => ?_) | refine reg_box (cs := [_, _, _, _, _, _, _]) rfl (fun nb => ?_) | refine reg_box (cs := [_, _, _, _, _, _, _, _]) rfl (fun nb => ?_)))
    | refine reg_nil ?_
    | refine run_condT rfl ?_
    | refine run_condF rfl ?_)
  exact ret_tmp1 rfl ⟨rfl, rfl⟩

theorem many_spec (w0 : World) (hw : PowOk w0) (p : Nat) (A : Ar) (hA : A.Ok) (s : Sp) (hsm : Sm s 0) : FnE PP w0 [] 24 [arrV A, spP p] [SpaceA p s]
    (.tuple #[.int .i64 (A.many s).1, .int .i64 (A.many s).2.1, .bool (A.many s).2.2.1]) [SpaceA p (A.many s).2.2.2] := by
  obtain ⟨_, h1, h2⟩ := id hA
  obtain ⟨T, fr, hw2⟩ := id hw
  refine fn_of_run en24 fn24 rfl rfl rfl ?_ -- @@FN 24
  repeat (first | refine run_seq ?_ | refine run_block ?_ | refine run_skip ?_ | refine run_inBlock ?_)
  first | refine run_region (by kernel_rfl) ?_ | refine run_drawA PP_mixed (by kernel_rfl) (by kernel_rfl) ?_
  repeat' (refine reg_cons rfl ?_; first
        | ((with_reducible refine tag_guard ?_); first | refine reg_guard_in rfl ?_ | refine reg_guard_out rfl ?_ | refine reg_guard_none rfl ?_ | refine reg_guard rfl rfl (fun _ => ?_) (fun _ => ?_))
        | ((with_reducible refine tag_move ?_); refine reg_pure rfl ?_)
        | ((with_reducible refine tag_assign ?_); refine reg_pure rfl ?_)
        | ((with_reducible refine tag_load ?_); first | refine reg_load_sh 0 rfl rfl rfl ?_ | refine reg_load_sh 1 rfl rfl rfl ?_ | refine reg_load_sh 2 rfl rfl rfl ?_ | refine reg_load_sh 3 rfl rfl rfl ?_ | refine reg_load_sh 4 rfl rfl rfl ?_ | refine reg_load_sh 5 rfl rfl rfl ?_ | refine reg_load_pt 0 rfl rfl rfl ?_ | refine reg_load_pt 1 rfl rfl rfl ?_ | refine reg_load_pt 2 rfl rfl rfl ?_ | refine reg_load_pt 3 rfl rfl rfl ?_ | refine reg_load_pt 4 rfl rfl rfl ?_ | refine reg_load_pt 5 rfl rfl rfl ?_)
        | ((with_reducible refine tag_field ?_); refine reg_field rfl ?_)
        | ((with_reducible refine tag_bin ?_); first | refine reg_add64 rfl rfl (by omega) ?_ | refine reg_eql rfl rfl ?_ | refine reg_lss rfl rfl ?_ | refine reg_gtr rfl rfl ?_ | refine reg_eq_nil rfl rfl ?_ | refine reg_eqB rfl rfl ?_)
        | ((with_reducible refine tag_pick ?_); first | refine reg_pickT rfl ?_ | refine reg_pickF rfl ?_ | refine reg_pick rfl rfl rfl ?_)
        | ((with_reducible refine tag_index ?_); first | refine reg_index_slice rfl rfl (by omega) ?_ | refine reg_index_array rfl rfl (by omega) ?_)
        | ((with_reducible refine tag_box ?_); first | refine reg_box (cs := [_]) rfl (fun nb => ?_) | refine reg_box (cs := [_, _]) rfl (fun nb => ?_) | refine reg_box (cs := [_, _, _]) rfl (fun nb => ?_) | refine reg_box (cs := [_, _, _, _]) rfl (fun nb => ?_) | refine reg_box (cs := [_, _, _, _, _]) rfl (fun nb => ?_) | refine reg_box (cs := [_, _, _, _, _, _]) rfl (fun nb => ?_) | refine reg_box (cs := [_, _, _, _, _, _, _]) rfl (fun nb => ?_) | refine reg_box (cs := [_, _, _, _, _, _, _, _]) rfl (fun nb => ?_)))
  all_goals refine reg_nil ?_
  all_goals repeat (first | refine run_seq ?_ | refine run_block ?_ | refine run_skip ?_ | refine run_inBlock ?_)
  refine run_share [1] rfl ?_
  generalize hg : s.get (A.root + 1) = g
  have hsm2 : Sm g.2 0 := hg ▸ sm_get hsm
  have hG : FnE PP w0 [] 28 [spP p, .int .i64 (A.root + 1)] [SpaceA p s] (.int .i64 g.1) [SpaceA p g.2] := hg ▸ getS w0 p s (A.root + 1) hsm
  repeat (first | refine run_seq ?_ | refine run_block ?_ | refine run_skip ?_ | refine run_inBlock ?_)
  first | refine run_region (by kernel_rfl) ?_ | refine run_drawA PP_mixed (by kernel_rfl) (by kernel_rfl) ?_
  repeat' (refine reg_cons rfl ?_; first
        | ((with_reducible refine tag_guard ?_); first | refine reg_guard_in rfl ?_ | refine reg_guard_out rfl ?_ | refine reg_guard_none rfl ?_ | refine reg_guard rfl rfl (fun _ => ?_) (fun _ => ?_))
        | ((with_reducible refine tag_move ?_); refine reg_pure rfl ?_)
        | ((with_reducible refine tag_assign ?_); refine reg_pure rfl ?_)
        | ((with_reducible refine tag_load ?_); first | refine reg_load_sh 0 rfl rfl rfl ?_ | refine reg_load_sh 1 rfl rfl rfl ?_ | refine reg_load_sh 2 rfl rfl rfl ?_ | refine reg_load_sh 3 rfl rfl rfl ?_ | refine reg_load_sh 4 rfl rfl rfl ?_ | refine reg_load_sh 5 rfl rfl rfl ?_ | refine reg_load_pt 0 rfl rfl rfl ?_ | refine reg_load_pt 1 rfl rfl rfl ?_ | refine reg_load_pt 2 rfl rfl rfl ?_ | refine reg_load_pt 3 rfl rfl rfl ?_ | refine reg_load_pt 4 rfl rfl rfl ?_ | refine reg_load_pt 5 rfl rfl rfl ?_)
        | ((with_reducible refine tag_call ?_); refine reg_callE [0] hG rfl rfl rfl sub_nil rfl ?_)
        | ((with_reducible refine tag_field ?_); refine reg_field rfl ?_)
        | ((with_reducible refine tag_bin ?_); first | refine reg_add64 rfl rfl (by omega) ?_ | refine reg_eql rfl rfl ?_ | refine reg_lss rfl rfl ?_ | refine reg_gtr rfl rfl ?_ | refine reg_eq_nil rfl rfl ?_ | refine reg_eqB rfl rfl ?_)
        | ((with_reducible refine tag_pick ?_); first | refine reg_pickT rfl ?_ | refine reg_pickF rfl ?_ | refine reg_pick rfl rfl rfl ?_)
        | ((with_reducible refine tag_index ?_); first | refine reg_index_slice rfl rfl (by omega) ?_ | refine reg_index_array rfl rfl (by omega) ?_)
        | ((with_reducible refine tag_box ?_); first | refine reg_box (cs := [_]) rfl (fun nb => ?_) | refine reg_box (cs := [_, _]) rfl (fun nb => ?_) | refine reg_box (cs := [_, _, _]) rfl (fun nb => ?_) | refine reg_box (cs := [_, _, _, _]) rfl (fun nb => ?_) | refine reg_box (cs := [_, _, _, _, _]) rfl (fun nb => ?_) | refine reg_box (cs := [_, _, _, _, _, _]) rfl (fun nb => ?_) | refine reg_box (cs := [_, _, _, _, _, _, _]) rfl (fun nb => ?_) | refine reg_box (cs := [_, _, _, _, _, _, _, _]) rfl (fun nb => ?_)))
  all_goals refine reg_nil ?_
  all_goals repeat (first | refine run_seq ?_ | refine run_block ?_ | refine run_skip ?_ | refine run_inBlock ?_)
  by_cases h0 : g.1 < 0
  · have d0 : decide (g.1 < 0) = true := decide_eq_true h0
    have e : A.many s = (g.1, 0, false, g.2) := by simp [Ar.many, hg, h0]
    repeat' (first
      | refine run_seq ?_
      | refine run_region (by kernel_rfl) ?_
      | refine run_drawA PP_mixed (by kernel_rfl) (by kernel_rfl) ?_
      | refine run_skip ?_
      | refine run_block ?_
      | refine run_inBlock ?_
      | refine run_inLoop ?_
      | refine run_exit rfl ?_
      | (refine reg_cons rfl ?_; first
          | (refine reg_lss rfl rfl ?_; rw [d0])
          | ((with_reducible refine tag_guard ?_); first | refine reg_guard_in rfl ?_ | refine reg_guard_out rfl ?_ | refine reg_guard_none rfl ?_ | refine reg_guard rfl rfl (fun _ => ?_) (fun _ => ?_))
          | ((with_reducible refine tag_move ?_); refine reg_pure rfl ?_)
          | ((with_reducible refine tag_assign ?_); refine reg_pure rfl ?_)
          | ((with_reducible refine tag_load ?_); first | refine reg_load_sh 0 rfl rfl rfl ?_ | refine reg_load_sh 1 rfl rfl rfl ?_ | refine reg_load_sh 2 rfl rfl rfl ?_ | refine reg_load_sh 3 rfl rfl rfl ?_ | refine reg_load_sh 4 rfl rfl rfl ?_ | refine reg_load_sh 5 rfl rfl rfl ?_ | refine reg_load_pt 0 rfl rfl rfl ?_ | refine reg_load_pt 1 rfl rfl rfl ?_ | refine reg_load_pt 2 rfl rfl rfl ?_ | refine reg_load_pt 3 rfl rfl rfl ?_ | refine reg_load_pt 4 rfl rfl rfl ?_ | refine reg_load_pt 5 rfl rfl rfl ?_)
          | ((with_reducible refine tag_field ?_); refine reg_field rfl ?_)
          | ((with_reducible refine tag_bin ?_); first | refine reg_add64 rfl rfl (by omega) ?_ | refine reg_eql rfl rfl ?_ | refine reg_lss rfl rfl ?_ | refine reg_gtr rfl rfl ?_ | refine reg_eq_nil rfl rfl ?_ | refine reg_eqB rfl rfl ?_)
          | ((with_reducible refine tag_pick ?_); first | refine reg_pickT rfl ?_ | refine reg_pickF rfl ?_ | refine reg_pick rfl rfl rfl ?_)
          | ((with_reducible refine tag_index ?_); first | refine reg_index_slice rfl rfl (by omega) ?_ | refine reg_index_array rfl rfl (by omega) ?_)
          | ((with_reducible refine tag_box ?_); first | refine reg_box (cs := [_]) rfl (fun nb => ?_) | refine reg_box (cs := [_, _]) rfl (fun nb => ?_) | refine reg_box (cs := [_, _, _]) rfl (fun nb => ?_) | refine reg_box (cs := [_, _, _, _]) rfl (fun nb => ?_) | refine reg_box (cs := [_, _, _, _, _]) rfl (fun nb => ?_) | refine reg_box (cs := [_, _, _, _, _, _]) rfl (fun nb => ?_) | refine reg_box (cs := [_, _, _, _, _, _, _]) rfl (fun nb => ?_) | refine reg_box (cs := [_, _, _, _, _, _, _, _]) rfl (fun nb => ?_)))
      | refine reg_nil ?_
      | refine run_condT rfl ?_
      | refine run_condF rfl ?_)
    rw [e]
    exact ret_tmp3 rfl ⟨rfl, rfl⟩
  · have d0 : decide (g.1 < 0) = false := decide_eq_false h0
    by_cases h1 : 4096 < g.1
    · have d1 : decide (4096 < g.1) = true := decide_eq_true h1
      have e : A.many s = (g.1, 0, false, g.2) := by simp [Ar.many, hg, h1]
      repeat' (first
        | refine run_seq ?_
        | refine run_region (by kernel_rfl) ?_
        | refine run_drawA PP_mixed (by kernel_rfl) (by kernel_rfl) ?_
        | refine run_skip ?_
        | refine run_block ?_
        | refine run_inBlock ?_
        | refine run_inLoop ?_
        | refine run_exit rfl ?_
        | (refine reg_cons rfl ?_; first
            | (refine reg_lss rfl rfl ?_; rw [d0])
            | refine reg_load_base rfl hw2 (powL_rd 4 (by decide) _ rfl) ?_
            | (refine reg_gtr rfl rfl ?_; rw [show pw 4 = 4096 from rfl, d1])
            | ((with_reducible refine tag_guard ?_); first | refine reg_guard_in rfl ?_ | refine reg_guard_out rfl ?_ | refine reg_guard_none rfl ?_ | refine reg_guard rfl rfl (fun _ => ?_) (fun _ => ?_))
            | ((with_reducible refine tag_move ?_); refine reg_pure rfl ?_)
            | ((with_reducible refine tag_assign ?_); refine reg_pure rfl ?_)
            | ((with_reducible refine tag_load ?_); first | refine reg_load_sh 0 rfl rfl rfl ?_ | refine reg_load_sh 1 rfl rfl rfl ?_ | refine reg_load_sh 2 rfl rfl rfl ?_ | refine reg_load_sh 3 rfl rfl rfl ?_ | refine reg_load_sh 4 rfl rfl rfl ?_ | refine reg_load_sh 5 rfl rfl rfl ?_ | refine reg_load_pt 0 rfl rfl rfl ?_ | refine reg_load_pt 1 rfl rfl rfl ?_ | refine reg_load_pt 2 rfl rfl rfl ?_ | refine reg_load_pt 3 rfl rfl rfl ?_ | refine reg_load_pt 4 rfl rfl rfl ?_ | refine reg_load_pt 5 rfl rfl rfl ?_)
            | ((with_reducible refine tag_field ?_); refine reg_field rfl ?_)
            | ((with_reducible refine tag_bin ?_); first | refine reg_add64 rfl rfl (by omega) ?_ | refine reg_eql rfl rfl ?_ | refine reg_lss rfl rfl ?_ | refine reg_gtr rfl rfl ?_ | refine reg_eq_nil rfl rfl ?_ | refine reg_eqB rfl rfl ?_)
            | ((with_reducible refine tag_pick ?_); first | refine reg_pickT rfl ?_ | refine reg_pickF rfl ?_ | refine reg_pick rfl rfl rfl ?_)
            | ((with_reducible refine tag_index ?_); first | refine reg_index_slice rfl rfl (by omega) ?_ | refine reg_index_array rfl rfl (by omega) ?_)
            | ((with_reducible refine tag_box ?_); first | refine reg_box (cs := [_]) rfl (fun nb => ?_) | refine reg_box (cs := [_, _]) rfl (fun nb => ?_) | refine reg_box (cs := [_, _, _]) rfl (fun nb => ?_) | refine reg_box (cs := [_, _, _, _]) rfl (fun nb => ?_) | refine reg_box (cs := [_, _, _, _, _]) rfl (fun nb => ?_) | refine reg_box (cs := [_, _, _, _, _, _]) rfl (fun nb => ?_) | refine reg_box (cs := [_, _, _, _, _, _, _]) rfl (fun nb => ?_) | refine reg_box (cs := [_, _, _, _, _, _, _, _]) rfl (fun nb => ?_)))
        | refine reg_nil ?_
        | refine run_condT rfl ?_
        | refine run_condF rfl ?_)
      rw [e]
      exact ret_tmp3 rfl ⟨rfl, rfl⟩
    · have d1 : decide (4096 < g.1) = false := decide_eq_false h1
      have e : A.many s = (g.1, (dep g.1 : Int), decide ((g.2.get (A.root + 2)).1 = dep g.1), (g.2.get (A.root + 2)).2) := by simp [Ar.many, hg, h0, h1]
      repeat' (first
        | refine run_seq ?_
        | refine run_region (by kernel_rfl) ?_
        | refine run_drawA PP_mixed (by kernel_rfl) (by kernel_rfl) ?_
        | refine run_skip ?_
        | refine run_block ?_
        | refine run_inBlock ?_
        | refine run_inLoop ?_
        | refine run_exit rfl ?_
        | (refine reg_cons rfl ?_; first
            | (refine reg_lss rfl rfl ?_; rw [d0])
            | refine reg_load_base rfl hw2 (powL_rd 4 (by decide) _ rfl) ?_
            | (refine reg_gtr rfl rfl ?_; rw [show pw 4 = 4096 from rfl, d1])
            | ((with_reducible refine tag_guard ?_); first | refine reg_guard_in rfl ?_ | refine reg_guard_out rfl ?_ | refine reg_guard_none rfl ?_ | refine reg_guard rfl rfl (fun _ => ?_) (fun _ => ?_))
            | ((with_reducible refine tag_move ?_); refine reg_pure rfl ?_)
            | ((with_reducible refine tag_assign ?_); refine reg_pure rfl ?_)
            | ((with_reducible refine tag_load ?_); first | refine reg_load_sh 0 rfl rfl rfl ?_ | refine reg_load_sh 1 rfl rfl rfl ?_ | refine reg_load_sh 2 rfl rfl rfl ?_ | refine reg_load_sh 3 rfl rfl rfl ?_ | refine reg_load_sh 4 rfl rfl rfl ?_ | refine reg_load_sh 5 rfl rfl rfl ?_ | refine reg_load_pt 0 rfl rfl rfl ?_ | refine reg_load_pt 1 rfl rfl rfl ?_ | refine reg_load_pt 2 rfl rfl rfl ?_ | refine reg_load_pt 3 rfl rfl rfl ?_ | refine reg_load_pt 4 rfl rfl rfl ?_ | refine reg_load_pt 5 rfl rfl rfl ?_)
            | ((with_reducible refine tag_call ?_); first | refine reg_callE [0] (getS w0 p _ _ hsm2) rfl rfl rfl sub_nil rfl ?_ | refine reg_callE [] (depth_spec w0 hw _) rfl rfl rfl sub_nil rfl ?_)
            | ((with_reducible refine tag_field ?_); refine reg_field rfl ?_)
            | ((with_reducible refine tag_bin ?_); first | refine reg_add64 rfl rfl (by omega) ?_ | refine reg_eql rfl rfl ?_ | refine reg_lss rfl rfl ?_ | refine reg_gtr rfl rfl ?_ | refine reg_eq_nil rfl rfl ?_ | refine reg_eqB rfl rfl ?_)
            | ((with_reducible refine tag_pick ?_); first | refine reg_pickT rfl ?_ | refine reg_pickF rfl ?_ | refine reg_pick rfl rfl rfl ?_)
            | ((with_reducible refine tag_index ?_); first | refine reg_index_slice rfl rfl (by omega) ?_ | refine reg_index_array rfl rfl (by omega) ?_)
            | ((with_reducible refine tag_box ?_); first | refine reg_box (cs := [_]) rfl (fun nb => ?_) | refine reg_box (cs := [_, _]) rfl (fun nb => ?_) | refine reg_box (cs := [_, _, _]) rfl (fun nb => ?_) | refine reg_box (cs := [_, _, _, _]) rfl (fun nb => ?_) | refine reg_box (cs := [_, _, _, _, _]) rfl (fun nb => ?_) | refine reg_box (cs := [_, _, _, _, _, _]) rfl (fun nb => ?_) | refine reg_box (cs := [_, _, _, _, _, _, _]) rfl (fun nb => ?_) | refine reg_box (cs := [_, _, _, _, _, _, _, _]) rfl (fun nb => ?_)))
        | refine reg_nil ?_
        | refine run_condT rfl ?_
        | refine run_condF rfl ?_)
      rw [e]
      exact ret_tmp3 rfl ⟨rfl, rfl⟩

theorem atake_spec (w0 : World) (p : Nat) (A : Ar) (hA : A.Ok) (s : Sp) (hsm : Sm s 3) : FnE PP w0 [] 30 [arrV A, spP p] [SpaceA p s]
    (.tuple #[.int .i64 (A.take s).1, .int .i64 (A.take s).2.1]) [SpaceA p (A.take s).2.2] := by
  obtain ⟨_, h1, h2⟩ := id hA
  refine fn_of_run en30 fn30 rfl rfl rfl ?_ -- @@FN 30
  repeat (first | refine run_seq ?_ | refine run_block ?_ | refine run_skip ?_ | refine run_inBlock ?_)
  first | refine run_region (by kernel_rfl) ?_ | refine run_drawA PP_mixed (by kernel_rfl) (by kernel_rfl) ?_
  repeat' (refine reg_cons rfl ?_; first
        | ((with_reducible refine tag_move ?_); refine reg_pure rfl ?_)
        | ((with_reducible refine tag_assign ?_); refine reg_pure rfl ?_)
        | ((with_reducible refine tag_load ?_); first | refine reg_load_sh 0 rfl rfl rfl ?_ | refine reg_load_sh 1 rfl rfl rfl ?_ | refine reg_load_sh 2 rfl rfl rfl ?_ | refine reg_load_sh 3 rfl rfl rfl ?_ | refine reg_load_sh 4 rfl rfl rfl ?_ | refine reg_load_sh 5 rfl rfl rfl ?_ | refine reg_load_pt 0 rfl rfl rfl ?_ | refine reg_load_pt 1 rfl rfl rfl ?_ | refine reg_load_pt 2 rfl rfl rfl ?_ | refine reg_load_pt 3 rfl rfl rfl ?_ | refine reg_load_pt 4 rfl rfl rfl ?_ | refine reg_load_pt 5 rfl rfl rfl ?_)
        | ((with_reducible refine tag_field ?_); refine reg_field rfl ?_)
        | ((with_reducible refine tag_extract ?_); refine reg_pure rfl ?_)
        | ((with_reducible refine tag_bin ?_); first | refine reg_add64 rfl rfl (by omega) ?_ | refine reg_eql rfl rfl ?_ | refine reg_eq_nil rfl rfl ?_ | refine reg_eqB rfl rfl ?_)
        | ((with_reducible refine tag_box ?_); first | refine reg_box (cs := [_]) rfl (fun nb => ?_) | refine reg_box (cs := [_, _]) rfl (fun nb => ?_) | refine reg_box (cs := [_, _, _]) rfl (fun nb => ?_) | refine reg_box (cs := [_, _, _, _]) rfl (fun nb => ?_) | refine reg_box (cs := [_, _, _, _, _]) rfl (fun nb => ?_) | refine reg_box (cs := [_, _, _, _, _, _]) rfl (fun nb => ?_) | refine reg_box (cs := [_, _, _, _, _, _, _]) rfl (fun nb => ?_) | refine reg_box (cs := [_, _, _, _, _, _, _, _]) rfl (fun nb => ?_)))
  all_goals refine reg_nil ?_
  all_goals repeat (first | refine run_seq ?_ | refine run_block ?_ | refine run_skip ?_ | refine run_inBlock ?_)
  refine run_share [1] rfl ?_
  generalize hg : A.pool.take s = g
  have hsm2 : Sm g.2.2 1 := hg ▸ sm_poolTake hsm
  have hG := take_spec w0 p A.pool hA.1 s (hsm.mono (by decide))
  rw [hg] at hG
  repeat' (first
    | refine run_seq ?_
    | refine run_region (by kernel_rfl) ?_
    | refine run_drawA PP_mixed (by kernel_rfl) (by kernel_rfl) ?_
    | refine run_skip ?_
    | refine run_block ?_
    | refine run_inBlock ?_
    | refine run_inLoop ?_
    | refine run_exit rfl ?_
    | (refine reg_cons rfl ?_; first
        | ((with_reducible refine tag_move ?_); refine reg_pure rfl ?_)
        | ((with_reducible refine tag_assign ?_); refine reg_pure rfl ?_)
        | ((with_reducible refine tag_load ?_); first | refine reg_load_sh 0 rfl rfl rfl ?_ | refine reg_load_sh 1 rfl rfl rfl ?_ | refine reg_load_sh 2 rfl rfl rfl ?_ | refine reg_load_sh 3 rfl rfl rfl ?_ | refine reg_load_sh 4 rfl rfl rfl ?_ | refine reg_load_sh 5 rfl rfl rfl ?_ | refine reg_load_pt 0 rfl rfl rfl ?_ | refine reg_load_pt 1 rfl rfl rfl ?_ | refine reg_load_pt 2 rfl rfl rfl ?_ | refine reg_load_pt 3 rfl rfl rfl ?_ | refine reg_load_pt 4 rfl rfl rfl ?_ | refine reg_load_pt 5 rfl rfl rfl ?_)
        | ((with_reducible refine tag_call ?_); refine reg_callE [0] hG rfl rfl rfl sub_nil rfl ?_)
        | ((with_reducible refine tag_field ?_); refine reg_field rfl ?_)
        | ((with_reducible refine tag_extract ?_); refine reg_pure rfl ?_)
        | ((with_reducible refine tag_bin ?_); first | refine reg_add64 rfl rfl (by omega) ?_ | refine reg_eql rfl rfl ?_ | refine reg_eq_nil rfl rfl ?_ | refine reg_eqB rfl rfl ?_)
        | ((with_reducible refine tag_box ?_); first | refine reg_box (cs := [_]) rfl (fun nb => ?_) | refine reg_box (cs := [_, _]) rfl (fun nb => ?_) | refine reg_box (cs := [_, _, _]) rfl (fun nb => ?_) | refine reg_box (cs := [_, _, _, _]) rfl (fun nb => ?_) | refine reg_box (cs := [_, _, _, _, _]) rfl (fun nb => ?_) | refine reg_box (cs := [_, _, _, _, _, _]) rfl (fun nb => ?_) | refine reg_box (cs := [_, _, _, _, _, _, _]) rfl (fun nb => ?_) | refine reg_box (cs := [_, _, _, _, _, _, _, _]) rfl (fun nb => ?_)))
    | refine reg_nil ?_
    | refine run_condT rfl ?_
    | refine run_condF rfl ?_)
  refine run_cond rfl (fun hE => ?_) (fun hE => ?_)
  · have e : A.take s = (g.1, g.2.1, (g.2.2.get (A.root + 7)).2.put (A.root + 7) (w64 ((g.2.2.get (A.root + 7)).1 + 1))) := by simp [Ar.take, hg, hE]
    repeat' (first
      | refine run_seq ?_
      | refine run_region (by kernel_rfl) ?_
      | refine run_drawA PP_mixed (by kernel_rfl) (by kernel_rfl) ?_
      | refine run_skip ?_
      | refine run_block ?_
      | refine run_inBlock ?_
      | refine run_inLoop ?_
      | refine run_exit rfl ?_
      | (refine reg_cons rfl ?_; first
          | refine reg_add (t := 2) rfl rfl ?_
          | ((with_reducible refine tag_move ?_); refine reg_pure rfl ?_)
          | ((with_reducible refine tag_assign ?_); refine reg_pure rfl ?_)
          | ((with_reducible refine tag_load ?_); first | refine reg_load_sh 0 rfl rfl rfl ?_ | refine reg_load_sh 1 rfl rfl rfl ?_ | refine reg_load_sh 2 rfl rfl rfl ?_ | refine reg_load_sh 3 rfl rfl rfl ?_ | refine reg_load_sh 4 rfl rfl rfl ?_ | refine reg_load_sh 5 rfl rfl rfl ?_ | refine reg_load_pt 0 rfl rfl rfl ?_ | refine reg_load_pt 1 rfl rfl rfl ?_ | refine reg_load_pt 2 rfl rfl rfl ?_ | refine reg_load_pt 3 rfl rfl rfl ?_ | refine reg_load_pt 4 rfl rfl rfl ?_ | refine reg_load_pt 5 rfl rfl rfl ?_)
          | ((with_reducible refine tag_call ?_); first | refine reg_callE [0] (getS w0 p _ _ (hsm2.mono (by decide))) rfl rfl rfl sub_nil rfl ?_ | refine reg_callE [0] (putS w0 p _ _ _ (sm_get (hsm2.mono (by decide)))) rfl rfl rfl sub_nil rfl ?_)
          | ((with_reducible refine tag_field ?_); refine reg_field rfl ?_)
          | ((with_reducible refine tag_extract ?_); refine reg_pure rfl ?_)
          | ((with_reducible refine tag_bin ?_); first | refine reg_add64 rfl rfl (by omega) ?_ | refine reg_eql rfl rfl ?_ | refine reg_eq_nil rfl rfl ?_ | refine reg_eqB rfl rfl ?_)
          | ((with_reducible refine tag_box ?_); first | refine reg_box (cs := [_]) rfl (fun nb => ?_) | refine reg_box (cs := [_, _]) rfl (fun nb => ?_) | refine reg_box (cs := [_, _, _]) rfl (fun nb => ?_) | refine reg_box (cs := [_, _, _, _]) rfl (fun nb => ?_) | refine reg_box (cs := [_, _, _, _, _]) rfl (fun nb => ?_) | refine reg_box (cs := [_, _, _, _, _, _]) rfl (fun nb => ?_) | refine reg_box (cs := [_, _, _, _, _, _, _]) rfl (fun nb => ?_) | refine reg_box (cs := [_, _, _, _, _, _, _, _]) rfl (fun nb => ?_)))
      | refine reg_nil ?_
      | refine run_condT rfl ?_
      | refine run_condF rfl ?_)
    rw [e]
    exact ret_tmp2 rfl ⟨rfl, rfl⟩
  · have e : A.take s = (g.1, g.2.1, g.2.2) := by simp [Ar.take, hg, hE]
    repeat' (first
      | refine run_seq ?_
      | refine run_region (by kernel_rfl) ?_
      | refine run_drawA PP_mixed (by kernel_rfl) (by kernel_rfl) ?_
      | refine run_skip ?_
      | refine run_block ?_
      | refine run_inBlock ?_
      | refine run_inLoop ?_
      | refine run_exit rfl ?_
      | (refine reg_cons rfl ?_; first
          | ((with_reducible refine tag_move ?_); refine reg_pure rfl ?_)
          | ((with_reducible refine tag_assign ?_); refine reg_pure rfl ?_)
          | ((with_reducible refine tag_load ?_); first | refine reg_load_sh 0 rfl rfl rfl ?_ | refine reg_load_sh 1 rfl rfl rfl ?_ | refine reg_load_sh 2 rfl rfl rfl ?_ | refine reg_load_sh 3 rfl rfl rfl ?_ | refine reg_load_sh 4 rfl rfl rfl ?_ | refine reg_load_sh 5 rfl rfl rfl ?_ | refine reg_load_pt 0 rfl rfl rfl ?_ | refine reg_load_pt 1 rfl rfl rfl ?_ | refine reg_load_pt 2 rfl rfl rfl ?_ | refine reg_load_pt 3 rfl rfl rfl ?_ | refine reg_load_pt 4 rfl rfl rfl ?_ | refine reg_load_pt 5 rfl rfl rfl ?_)
          | ((with_reducible refine tag_field ?_); refine reg_field rfl ?_)
          | ((with_reducible refine tag_extract ?_); refine reg_pure rfl ?_)
          | ((with_reducible refine tag_bin ?_); first | refine reg_add64 rfl rfl (by omega) ?_ | refine reg_eql rfl rfl ?_ | refine reg_eq_nil rfl rfl ?_ | refine reg_eqB rfl rfl ?_)
          | ((with_reducible refine tag_box ?_); first | refine reg_box (cs := [_]) rfl (fun nb => ?_) | refine reg_box (cs := [_, _]) rfl (fun nb => ?_) | refine reg_box (cs := [_, _, _]) rfl (fun nb => ?_) | refine reg_box (cs := [_, _, _, _]) rfl (fun nb => ?_) | refine reg_box (cs := [_, _, _, _, _]) rfl (fun nb => ?_) | refine reg_box (cs := [_, _, _, _, _, _]) rfl (fun nb => ?_) | refine reg_box (cs := [_, _, _, _, _, _, _]) rfl (fun nb => ?_) | refine reg_box (cs := [_, _, _, _, _, _, _, _]) rfl (fun nb => ?_)))
      | refine reg_nil ?_
      | refine run_condT rfl ?_
      | refine run_condF rfl ?_)
    rw [e]
    exact ret_tmp2 rfl ⟨rfl, rfl⟩
end Go.Proofs.YtilnknokgflkjaaDoor

/- The walks of package array: way. -/
namespace Go.Proofs.YtilnknokgflkjaaDoor
open Go.Vc Sim
set_option maxHeartbeats 4000000

def intL (l : List Int) : List Value := l.map (Value.int .i64)
def wayR (p : Nat) (r : Option (List Int) × Sp) (v : Value) (Γ : List Asn) : Prop :=
  match r.1 with
  | some l => ∃ a cap, v = .tuple #[.slice a l.length cap, .bool true] ∧ Γ = [SpaceA p r.2, SlA 24 1 a l.length cap (intL l)]
  | none => v = .tuple #[.slice none 0 0, .bool false] ∧ Γ = [SpaceA p r.2]

theorem way_spec (w0 : World) (hw : PowOk w0) (p : Nat) (A : Ar) (hA : A.Ok) (i : Int) (hi : 0 ≤ i ∧ i ≤ 4096) (d : Nat) (hd : d ≤ 4) (dI : Int) (hdI : dI = d) (s : Sp) (hsm : Sm s 0) :
    Vc.Fn PP w0 [] 34 [arrV A, spP p, .int .i64 i, .int .i64 dI] [SpaceA p s] (wayR p (A.way i d A.root s [])) := by
  subst hdI
  obtain ⟨_, h1, h2⟩ := id hA
  refine fn_of_run en34 fn34 rfl rfl rfl ?_ -- @@FN 34
  repeat (first | refine run_seq ?_ | refine run_block ?_ | refine run_skip ?_ | refine run_inBlock ?_)
  first | refine run_region (by kernel_rfl) ?_ | refine run_drawA PP_mixed (by kernel_rfl) (by kernel_rfl) ?_
  repeat' (refine reg_cons rfl ?_; first
        | ((with_reducible refine tag_move ?_); refine reg_pure rfl ?_)
        | ((with_reducible refine tag_assign ?_); refine reg_pure rfl ?_)
        | ((with_reducible refine tag_load ?_); first | refine reg_load_sh 0 rfl rfl rfl ?_ | refine reg_load_sh 1 rfl rfl rfl ?_ | refine reg_load_sh 2 rfl rfl rfl ?_ | refine reg_load_sh 3 rfl rfl rfl ?_ | refine reg_load_sh 4 rfl rfl rfl ?_ | refine reg_load_sh 5 rfl rfl rfl ?_ | refine reg_load_pt 0 rfl rfl rfl ?_ | refine reg_load_pt 1 rfl rfl rfl ?_ | refine reg_load_pt 2 rfl rfl rfl ?_ | refine reg_load_pt 3 rfl rfl rfl ?_ | refine reg_load_pt 4 rfl rfl rfl ?_ | refine reg_load_pt 5 rfl rfl rfl ?_)
        | ((with_reducible refine tag_field ?_); refine reg_field rfl ?_)
        | ((with_reducible refine tag_extract ?_); refine reg_pure rfl ?_)
        | ((with_reducible refine tag_bin ?_); first | refine reg_add64 rfl rfl (by omega) ?_ | refine reg_sub64 rfl rfl (by omega) ?_ | refine reg_gtr rfl rfl ?_)
        | ((with_reducible refine tag_un ?_); first | refine reg_not rfl ?_ | refine reg_notB rfl ?_)
        | ((with_reducible refine tag_box ?_); first | refine reg_box (cs := [_]) rfl (fun nb => ?_) | refine reg_box (cs := [_, _]) rfl (fun nb => ?_) | refine reg_box (cs := [_, _, _]) rfl (fun nb => ?_) | refine reg_box (cs := [_, _, _, _]) rfl (fun nb => ?_) | refine reg_box (cs := [_, _, _, _, _]) rfl (fun nb => ?_) | refine reg_box (cs := [_, _, _, _, _, _]) rfl (fun nb => ?_) | refine reg_box (cs := [_, _, _, _, _, _, _]) rfl (fun nb => ?_) | refine reg_box (cs := [_, _, _, _, _, _, _, _]) rfl (fun nb => ?_)))
  all_goals refine reg_nil ?_
  all_goals repeat (first | refine run_seq ?_ | refine run_block ?_ | refine run_skip ?_ | refine run_inBlock ?_)
  refine run_share [1] rfl ?_
  repeat (first | refine run_seq ?_ | refine run_block ?_ | refine run_skip ?_ | refine run_inBlock ?_)
  first | refine run_region (by kernel_rfl) ?_ | refine run_drawA PP_mixed (by kernel_rfl) (by kernel_rfl) ?_
  repeat' (refine reg_cons rfl ?_; first
        | ((with_reducible refine tag_move ?_); refine reg_pure rfl ?_)
        | ((with_reducible refine tag_assign ?_); refine reg_pure rfl ?_)
        | ((with_reducible refine tag_load ?_); first | refine reg_load_sh 0 rfl rfl rfl ?_ | refine reg_load_sh 1 rfl rfl rfl ?_ | refine reg_load_sh 2 rfl rfl rfl ?_ | refine reg_load_sh 3 rfl rfl rfl ?_ | refine reg_load_sh 4 rfl rfl rfl ?_ | refine reg_load_sh 5 rfl rfl rfl ?_ | refine reg_load_pt 0 rfl rfl rfl ?_ | refine reg_load_pt 1 rfl rfl rfl ?_ | refine reg_load_pt 2 rfl rfl rfl ?_ | refine reg_load_pt 3 rfl rfl rfl ?_ | refine reg_load_pt 4 rfl rfl rfl ?_ | refine reg_load_pt 5 rfl rfl rfl ?_)
        | ((with_reducible refine tag_field ?_); refine reg_field rfl ?_)
        | ((with_reducible refine tag_extract ?_); refine reg_pure rfl ?_)
        | ((with_reducible refine tag_bin ?_); first | refine reg_add64 rfl rfl (by omega) ?_ | refine reg_sub64 rfl rfl (by omega) ?_ | refine reg_gtr rfl rfl ?_)
        | ((with_reducible refine tag_un ?_); first | refine reg_not rfl ?_ | refine reg_notB rfl ?_)
        | ((with_reducible refine tag_box ?_); first | refine reg_box (cs := [_]) rfl (fun nb => ?_) | refine reg_box (cs := [_, _]) rfl (fun nb => ?_) | refine reg_box (cs := [_, _, _]) rfl (fun nb => ?_) | refine reg_box (cs := [_, _, _, _]) rfl (fun nb => ?_) | refine reg_box (cs := [_, _, _, _, _]) rfl (fun nb => ?_) | refine reg_box (cs := [_, _, _, _, _, _]) rfl (fun nb => ?_) | refine reg_box (cs := [_, _, _, _, _, _, _]) rfl (fun nb => ?_) | refine reg_box (cs := [_, _, _, _, _, _, _, _]) rfl (fun nb => ?_)))
  all_goals refine reg_nil ?_
  all_goals repeat (first | refine run_seq ?_ | refine run_block ?_ | refine run_skip ?_ | refine run_inBlock ?_)
  repeat (first | refine run_seq ?_ | refine run_block ?_ | refine run_skip ?_ | refine run_inBlock ?_)
  first | refine run_region (by kernel_rfl) ?_ | refine run_drawA PP_mixed (by kernel_rfl) (by kernel_rfl) ?_
  repeat' (refine reg_cons rfl ?_; first
        | ((with_reducible refine tag_move ?_); refine reg_pure rfl ?_)
        | ((with_reducible refine tag_assign ?_); refine reg_pure rfl ?_)
        | ((with_reducible refine tag_load ?_); first | refine reg_load_sh 0 rfl rfl rfl ?_ | refine reg_load_sh 1 rfl rfl rfl ?_ | refine reg_load_sh 2 rfl rfl rfl ?_ | refine reg_load_sh 3 rfl rfl rfl ?_ | refine reg_load_sh 4 rfl rfl rfl ?_ | refine reg_load_sh 5 rfl rfl rfl ?_ | refine reg_load_pt 0 rfl rfl rfl ?_ | refine reg_load_pt 1 rfl rfl rfl ?_ | refine reg_load_pt 2 rfl rfl rfl ?_ | refine reg_load_pt 3 rfl rfl rfl ?_ | refine reg_load_pt 4 rfl rfl rfl ?_ | refine reg_load_pt 5 rfl rfl rfl ?_)
        | ((with_reducible refine tag_field ?_); refine reg_field rfl ?_)
        | ((with_reducible refine tag_extract ?_); refine reg_pure rfl ?_)
        | ((with_reducible refine tag_bin ?_); first | refine reg_add64 rfl rfl (by omega) ?_ | refine reg_sub64 rfl rfl (by omega) ?_ | refine reg_gtr rfl rfl ?_)
        | ((with_reducible refine tag_un ?_); first | refine reg_not rfl ?_ | refine reg_notB rfl ?_)
        | ((with_reducible refine tag_box ?_); first | refine reg_box (cs := [_]) rfl (fun nb => ?_) | refine reg_box (cs := [_, _]) rfl (fun nb => ?_) | refine reg_box (cs := [_, _, _]) rfl (fun nb => ?_) | refine reg_box (cs := [_, _, _, _]) rfl (fun nb => ?_) | refine reg_box (cs := [_, _, _, _, _]) rfl (fun nb => ?_) | refine reg_box (cs := [_, _, _, _, _, _]) rfl (fun nb => ?_) | refine reg_box (cs := [_, _, _, _, _, _, _]) rfl (fun nb => ?_) | refine reg_box (cs := [_, _, _, _, _, _, _, _]) rfl (fun nb => ?_)))
  all_goals refine reg_nil ?_
  all_goals repeat (first | refine run_seq ?_ | refine run_block ?_ | refine run_skip ?_ | refine run_inBlock ?_)
  repeat (first | refine run_seq ?_ | refine run_block ?_ | refine run_skip ?_ | refine run_inBlock ?_ | refine run_inLoop ?_)
  refine run_nilslice 24 1 ?_
  refine run_loop (S := Nat × Int × Sp × List Int × Option Addr × Nat)
    (fun st => [(1, spP p), (2, .int .i64 i), (3, .int .i64 (st.1 : Int)), (4, .pointer (some ⟨nb, 0, none⟩)), (11, .int .i64 st.2.1), (10, .slice st.2.2.2.2.1 st.2.2.2.1.length st.2.2.2.2.2)])
    (fun st Γ => Γ = [SpaceA p st.2.2.1, SlA 24 1 st.2.2.2.2.1 st.2.2.2.1.length st.2.2.2.2.2 (intL st.2.2.2.1)] ∧ 0 ≤ st.2.1 ∧ st.2.1 ≤ 5000 ∧ st.1 + st.2.2.2.1.length ≤ 4 ∧ Sm st.2.2.1 0 ∧ A.way i st.1 st.2.1 st.2.2.1 st.2.2.2.1 = A.way i d A.root s [])
    (fun st => st.1) (d, A.root, s, [], none, 0) ⟨rfl, rfl, rfl, rfl, int_eq (Int.add_zero _), rfl, trivial⟩ ⟨rfl, by dsimp only; omega, by dsimp only; omega, by simpa using hd, hsm, rfl⟩ ?_
  rintro ⟨d', c, s, acc, a, cap⟩ Γ junk ⟨hΓ, hc1, hc2, hl, hsm, he⟩
  dsimp only at hΓ hc1 hc2 hl hsm he ⊢
  subst hΓ
  rw [← he]
  cases d' with
  | zero =>
    repeat' (first
      | refine run_seq ?_
      | refine run_region (by kernel_rfl) ?_
      | refine run_drawA PP_mixed (by kernel_rfl) (by kernel_rfl) ?_
      | refine run_skip ?_
      | refine run_block ?_
      | refine run_inBlock ?_
      | refine run_inLoop ?_
      | refine run_exit rfl ?_
      | (refine reg_cons rfl ?_; first
          | ((with_reducible refine tag_move ?_); refine reg_pure rfl ?_)
          | ((with_reducible refine tag_assign ?_); refine reg_pure rfl ?_)
          | ((with_reducible refine tag_load ?_); first | refine reg_load_sh 0 rfl rfl rfl ?_ | refine reg_load_sh 1 rfl rfl rfl ?_ | refine reg_load_sh 2 rfl rfl rfl ?_ | refine reg_load_sh 3 rfl rfl rfl ?_ | refine reg_load_sh 4 rfl rfl rfl ?_ | refine reg_load_sh 5 rfl rfl rfl ?_ | refine reg_load_pt 0 rfl rfl rfl ?_ | refine reg_load_pt 1 rfl rfl rfl ?_ | refine reg_load_pt 2 rfl rfl rfl ?_ | refine reg_load_pt 3 rfl rfl rfl ?_ | refine reg_load_pt 4 rfl rfl rfl ?_ | refine reg_load_pt 5 rfl rfl rfl ?_)
          | ((with_reducible refine tag_field ?_); refine reg_field rfl ?_)
          | ((with_reducible refine tag_extract ?_); refine reg_pure rfl ?_)
          | ((with_reducible refine tag_bin ?_); first | refine reg_add64 rfl rfl (by omega) ?_ | refine reg_sub64 rfl rfl (by omega) ?_ | refine reg_gtr rfl rfl ?_)
          | ((with_reducible refine tag_un ?_); first | refine reg_not rfl ?_ | refine reg_notB rfl ?_)
          | ((with_reducible refine tag_box ?_); first | refine reg_box (cs := [_]) rfl (fun nb => ?_) | refine reg_box (cs := [_, _]) rfl (fun nb => ?_) | refine reg_box (cs := [_, _, _]) rfl (fun nb => ?_) | refine reg_box (cs := [_, _, _, _]) rfl (fun nb => ?_) | refine reg_box (cs := [_, _, _, _, _]) rfl (fun nb => ?_) | refine reg_box (cs := [_, _, _, _, _, _]) rfl (fun nb => ?_) | refine reg_box (cs := [_, _, _, _, _, _, _]) rfl (fun nb => ?_) | refine reg_box (cs := [_, _, _, _, _, _, _, _]) rfl (fun nb => ?_)))
      | refine reg_nil ?_
      | refine run_condT rfl ?_
      | refine run_condF rfl ?_)
    refine cut_exit rfl rfl ?_
    repeat' (first
      | refine run_seq ?_
      | refine run_region (by kernel_rfl) ?_
      | refine run_drawA PP_mixed (by kernel_rfl) (by kernel_rfl) ?_
      | refine run_skip ?_
      | refine run_block ?_
      | refine run_inBlock ?_
      | refine run_inLoop ?_
      | refine run_exit rfl ?_
      | (refine reg_cons rfl ?_; first
          | ((with_reducible refine tag_move ?_); refine reg_pure rfl ?_)
          | ((with_reducible refine tag_assign ?_); refine reg_pure rfl ?_)
          | ((with_reducible refine tag_load ?_); first | refine reg_load_sh 0 rfl rfl rfl ?_ | refine reg_load_sh 1 rfl rfl rfl ?_ | refine reg_load_sh 2 rfl rfl rfl ?_ | refine reg_load_sh 3 rfl rfl rfl ?_ | refine reg_load_sh 4 rfl rfl rfl ?_ | refine reg_load_sh 5 rfl rfl rfl ?_ | refine reg_load_pt 0 rfl rfl rfl ?_ | refine reg_load_pt 1 rfl rfl rfl ?_ | refine reg_load_pt 2 rfl rfl rfl ?_ | refine reg_load_pt 3 rfl rfl rfl ?_ | refine reg_load_pt 4 rfl rfl rfl ?_ | refine reg_load_pt 5 rfl rfl rfl ?_)
          | ((with_reducible refine tag_field ?_); refine reg_field rfl ?_)
          | ((with_reducible refine tag_extract ?_); refine reg_pure rfl ?_)
          | ((with_reducible refine tag_bin ?_); first | refine reg_add64 rfl rfl (by omega) ?_ | refine reg_sub64 rfl rfl (by omega) ?_ | refine reg_gtr rfl rfl ?_)
          | ((with_reducible refine tag_un ?_); first | refine reg_not rfl ?_ | refine reg_notB rfl ?_)
          | ((with_reducible refine tag_box ?_); first | refine reg_box (cs := [_]) rfl (fun nb => ?_) | refine reg_box (cs := [_, _]) rfl (fun nb => ?_) | refine reg_box (cs := [_, _, _]) rfl (fun nb => ?_) | refine reg_box (cs := [_, _, _, _]) rfl (fun nb => ?_) | refine reg_box (cs := [_, _, _, _, _]) rfl (fun nb => ?_) | refine reg_box (cs := [_, _, _, _, _, _]) rfl (fun nb => ?_) | refine reg_box (cs := [_, _, _, _, _, _, _]) rfl (fun nb => ?_) | refine reg_box (cs := [_, _, _, _, _, _, _, _]) rfl (fun nb => ?_)))
      | refine reg_nil ?_
      | refine run_condT rfl ?_
      | refine run_condF rfl ?_)
    refine ret_tmp2 rfl ⟨a, cap, rfl, rfl⟩
  | succ d' =>
    repeat (first | refine run_seq ?_ | refine run_block ?_ | refine run_skip ?_ | refine run_inBlock ?_)
    first | refine run_region (by kernel_rfl) ?_ | refine run_drawA PP_mixed (by kernel_rfl) (by kernel_rfl) ?_
    repeat' (refine reg_cons rfl ?_; first
          | ((with_reducible refine tag_move ?_); refine reg_pure rfl ?_)
          | ((with_reducible refine tag_assign ?_); refine reg_pure rfl ?_)
          | ((with_reducible refine tag_load ?_); first | refine reg_load_sh 0 rfl rfl rfl ?_ | refine reg_load_sh 1 rfl rfl rfl ?_ | refine reg_load_sh 2 rfl rfl rfl ?_ | refine reg_load_sh 3 rfl rfl rfl ?_ | refine reg_load_sh 4 rfl rfl rfl ?_ | refine reg_load_sh 5 rfl rfl rfl ?_ | refine reg_load_pt 0 rfl rfl rfl ?_ | refine reg_load_pt 1 rfl rfl rfl ?_ | refine reg_load_pt 2 rfl rfl rfl ?_ | refine reg_load_pt 3 rfl rfl rfl ?_ | refine reg_load_pt 4 rfl rfl rfl ?_ | refine reg_load_pt 5 rfl rfl rfl ?_)
          | ((with_reducible refine tag_field ?_); refine reg_field rfl ?_)
          | ((with_reducible refine tag_extract ?_); refine reg_pure rfl ?_)
          | ((with_reducible refine tag_bin ?_); first | refine reg_add64 rfl rfl (by omega) ?_ | refine reg_sub64 rfl rfl (by omega) ?_ | refine reg_gtr rfl rfl ?_)
          | ((with_reducible refine tag_un ?_); first | refine reg_not rfl ?_ | refine reg_notB rfl ?_)
          | ((with_reducible refine tag_box ?_); first | refine reg_box (cs := [_]) rfl (fun nb => ?_) | refine reg_box (cs := [_, _]) rfl (fun nb => ?_) | refine reg_box (cs := [_, _, _]) rfl (fun nb => ?_) | refine reg_box (cs := [_, _, _, _]) rfl (fun nb => ?_) | refine reg_box (cs := [_, _, _, _, _]) rfl (fun nb => ?_) | refine reg_box (cs := [_, _, _, _, _, _]) rfl (fun nb => ?_) | refine reg_box (cs := [_, _, _, _, _, _, _]) rfl (fun nb => ?_) | refine reg_box (cs := [_, _, _, _, _, _, _, _]) rfl (fun nb => ?_)))
    all_goals refine reg_nil ?_
    all_goals repeat (first | refine run_seq ?_ | refine run_block ?_ | refine run_skip ?_ | refine run_inBlock ?_)
    refine run_condT (bool_eq (by simp)) ?_
    repeat (first | refine run_seq ?_ | refine run_block ?_ | refine run_skip ?_ | refine run_inBlock ?_)
    first | refine run_region (by kernel_rfl) ?_ | refine run_drawA PP_mixed (by kernel_rfl) (by kernel_rfl) ?_
    repeat' (refine reg_cons rfl ?_; first
          | ((with_reducible refine tag_move ?_); refine reg_pure rfl ?_)
          | ((with_reducible refine tag_assign ?_); refine reg_pure rfl ?_)
          | ((with_reducible refine tag_load ?_); first | refine reg_load_sh 0 rfl rfl rfl ?_ | refine reg_load_sh 1 rfl rfl rfl ?_ | refine reg_load_sh 2 rfl rfl rfl ?_ | refine reg_load_sh 3 rfl rfl rfl ?_ | refine reg_load_sh 4 rfl rfl rfl ?_ | refine reg_load_sh 5 rfl rfl rfl ?_ | refine reg_load_pt 0 rfl rfl rfl ?_ | refine reg_load_pt 1 rfl rfl rfl ?_ | refine reg_load_pt 2 rfl rfl rfl ?_ | refine reg_load_pt 3 rfl rfl rfl ?_ | refine reg_load_pt 4 rfl rfl rfl ?_ | refine reg_load_pt 5 rfl rfl rfl ?_)
          | ((with_reducible refine tag_call ?_); refine reg_callE [0] (anode_spec w0 p A hA _ _ (by first | exact hsm.mono (by decide) | (repeat (first | refine sm_get ?_ | refine sm_put ?_ | refine sm_node ?_ | refine sm_take ?_ | refine sm_many ?_ | refine sm_way ?_ | refine sm_poolTake ?_ | refine sm_give ?_)); exact hsm.mono (by decide))) rfl rfl rfl sub_nil rfl ?_)
          | ((with_reducible refine tag_field ?_); refine reg_field rfl ?_)
          | ((with_reducible refine tag_extract ?_); refine reg_pure rfl ?_)
          | ((with_reducible refine tag_bin ?_); first | refine reg_add64 rfl rfl (by omega) ?_ | refine reg_sub64 rfl rfl (by omega) ?_ | refine reg_gtr rfl rfl ?_)
          | ((with_reducible refine tag_un ?_); first | refine reg_not rfl ?_ | refine reg_notB rfl ?_)
          | ((with_reducible refine tag_box ?_); first | refine reg_box (cs := [_]) rfl (fun nb => ?_) | refine reg_box (cs := [_, _]) rfl (fun nb => ?_) | refine reg_box (cs := [_, _, _]) rfl (fun nb => ?_) | refine reg_box (cs := [_, _, _, _]) rfl (fun nb => ?_) | refine reg_box (cs := [_, _, _, _, _]) rfl (fun nb => ?_) | refine reg_box (cs := [_, _, _, _, _, _]) rfl (fun nb => ?_) | refine reg_box (cs := [_, _, _, _, _, _, _]) rfl (fun nb => ?_) | refine reg_box (cs := [_, _, _, _, _, _, _, _]) rfl (fun nb => ?_)))
    all_goals refine reg_nil ?_
    all_goals repeat (first | refine run_seq ?_ | refine run_block ?_ | refine run_skip ?_ | refine run_inBlock ?_)
    repeat (first | refine run_seq ?_ | refine run_block ?_ | refine run_skip ?_ | refine run_inBlock ?_)
    first | refine run_region (by kernel_rfl) ?_ | refine run_drawA PP_mixed (by kernel_rfl) (by kernel_rfl) ?_
    repeat' (refine reg_cons rfl ?_; first
          | ((with_reducible refine tag_move ?_); refine reg_pure rfl ?_)
          | ((with_reducible refine tag_assign ?_); refine reg_pure rfl ?_)
          | ((with_reducible refine tag_load ?_); first | refine reg_load_sh 0 rfl rfl rfl ?_ | refine reg_load_sh 1 rfl rfl rfl ?_ | refine reg_load_sh 2 rfl rfl rfl ?_ | refine reg_load_sh 3 rfl rfl rfl ?_ | refine reg_load_sh 4 rfl rfl rfl ?_ | refine reg_load_sh 5 rfl rfl rfl ?_ | refine reg_load_pt 0 rfl rfl rfl ?_ | refine reg_load_pt 1 rfl rfl rfl ?_ | refine reg_load_pt 2 rfl rfl rfl ?_ | refine reg_load_pt 3 rfl rfl rfl ?_ | refine reg_load_pt 4 rfl rfl rfl ?_ | refine reg_load_pt 5 rfl rfl rfl ?_)
          | ((with_reducible refine tag_field ?_); refine reg_field rfl ?_)
          | ((with_reducible refine tag_extract ?_); refine reg_pure rfl ?_)
          | ((with_reducible refine tag_bin ?_); first | refine reg_add64 rfl rfl (by omega) ?_ | refine reg_sub64 rfl rfl (by omega) ?_ | refine reg_gtr rfl rfl ?_)
          | ((with_reducible refine tag_un ?_); first | refine reg_not rfl ?_ | refine reg_notB rfl ?_)
          | ((with_reducible refine tag_box ?_); first | refine reg_box (cs := [_]) rfl (fun nb => ?_) | refine reg_box (cs := [_, _]) rfl (fun nb => ?_) | refine reg_box (cs := [_, _, _]) rfl (fun nb => ?_) | refine reg_box (cs := [_, _, _, _]) rfl (fun nb => ?_) | refine reg_box (cs := [_, _, _, _, _]) rfl (fun nb => ?_) | refine reg_box (cs := [_, _, _, _, _, _]) rfl (fun nb => ?_) | refine reg_box (cs := [_, _, _, _, _, _, _]) rfl (fun nb => ?_) | refine reg_box (cs := [_, _, _, _, _, _, _, _]) rfl (fun nb => ?_)))
    all_goals refine reg_nil ?_
    all_goals repeat (first | refine run_seq ?_ | refine run_block ?_ | refine run_skip ?_ | refine run_inBlock ?_)
    have hb := A.node_bd s c
    refine run_condV rfl (fun hE => ?_) (fun hE => ?_)
    · have hE : (A.node s c).2.1 = false := by simpa using hE
      repeat' (first
        | refine run_seq ?_
        | refine run_region (by kernel_rfl) ?_
        | refine run_drawA PP_mixed (by kernel_rfl) (by kernel_rfl) ?_
        | refine run_skip ?_
        | refine run_block ?_
        | refine run_inBlock ?_
        | refine run_inLoop ?_
        | refine run_exit rfl ?_
        | (refine reg_cons rfl ?_; first
            | ((with_reducible refine tag_move ?_); refine reg_pure rfl ?_)
            | ((with_reducible refine tag_assign ?_); refine reg_pure rfl ?_)
            | ((with_reducible refine tag_load ?_); first | refine reg_load_sh 0 rfl rfl rfl ?_ | refine reg_load_sh 1 rfl rfl rfl ?_ | refine reg_load_sh 2 rfl rfl rfl ?_ | refine reg_load_sh 3 rfl rfl rfl ?_ | refine reg_load_sh 4 rfl rfl rfl ?_ | refine reg_load_sh 5 rfl rfl rfl ?_ | refine reg_load_pt 0 rfl rfl rfl ?_ | refine reg_load_pt 1 rfl rfl rfl ?_ | refine reg_load_pt 2 rfl rfl rfl ?_ | refine reg_load_pt 3 rfl rfl rfl ?_ | refine reg_load_pt 4 rfl rfl rfl ?_ | refine reg_load_pt 5 rfl rfl rfl ?_)
            | ((with_reducible refine tag_field ?_); refine reg_field rfl ?_)
            | ((with_reducible refine tag_extract ?_); refine reg_pure rfl ?_)
            | ((with_reducible refine tag_bin ?_); first | refine reg_add64 rfl rfl (by omega) ?_ | refine reg_sub64 rfl rfl (by omega) ?_ | refine reg_gtr rfl rfl ?_)
            | ((with_reducible refine tag_un ?_); first | refine reg_not rfl ?_ | refine reg_notB rfl ?_)
            | ((with_reducible refine tag_box ?_); first | refine reg_box (cs := [_]) rfl (fun nb => ?_) | refine reg_box (cs := [_, _]) rfl (fun nb => ?_) | refine reg_box (cs := [_, _, _]) rfl (fun nb => ?_) | refine reg_box (cs := [_, _, _, _]) rfl (fun nb => ?_) | refine reg_box (cs := [_, _, _, _, _]) rfl (fun nb => ?_) | refine reg_box (cs := [_, _, _, _, _, _]) rfl (fun nb => ?_) | refine reg_box (cs := [_, _, _, _, _, _, _]) rfl (fun nb => ?_) | refine reg_box (cs := [_, _, _, _, _, _, _, _]) rfl (fun nb => ?_)))
        | refine reg_nil ?_
        | refine run_condT rfl ?_
        | refine run_condF rfl ?_)
      have e : A.way i (d' + 1) c s acc = (none, (A.node s c).2.2) := by simp [Ar.way, hE]
      rw [e]
      refine run_take [0] rfl ?_
      exact qret2 (fun _ _ h => h) rfl ⟨rfl, rfl⟩
    · have hE : (A.node s c).2.1 = true := by simpa using hE
      have e : A.way i (d' + 1) c s acc = A.way i d' ((A.node s c).1 + dig i (d' + 1)) (A.node s c).2.2 (acc ++ [(A.node s c).1]) := by simp [Ar.way, hE]
      have hdg := dig_bd i (d' + 1)
      repeat' (first
        | refine run_seq ?_
        | refine run_region (by kernel_rfl) ?_
        | refine run_drawA PP_mixed (by kernel_rfl) (by kernel_rfl) ?_
        | refine run_skip ?_
        | refine run_block ?_
        | refine run_inBlock ?_
        | refine run_inLoop ?_
        | refine run_exit rfl ?_
        | (refine reg_cons rfl ?_; first
            | refine reg_buildSlice rfl rfl rfl rfl rfl rfl (fun nb2 => ?_)
            | refine reg_append 1 2 rfl rfl rfl rfl rfl rfl rfl rfl (by first | omega | (dsimp only; omega)) (fun _ _ => rfl) (fun a' cap' => ?_)
            | ((with_reducible refine tag_move ?_); refine reg_pure rfl ?_)
            | ((with_reducible refine tag_assign ?_); refine reg_pure rfl ?_)
            | ((with_reducible refine tag_load ?_); first | refine reg_load_sh 0 rfl rfl rfl ?_ | refine reg_load_sh 1 rfl rfl rfl ?_ | refine reg_load_sh 2 rfl rfl rfl ?_ | refine reg_load_sh 3 rfl rfl rfl ?_ | refine reg_load_sh 4 rfl rfl rfl ?_ | refine reg_load_sh 5 rfl rfl rfl ?_ | refine reg_load_pt 0 rfl rfl rfl ?_ | refine reg_load_pt 1 rfl rfl rfl ?_ | refine reg_load_pt 2 rfl rfl rfl ?_ | refine reg_load_pt 3 rfl rfl rfl ?_ | refine reg_load_pt 4 rfl rfl rfl ?_ | refine reg_load_pt 5 rfl rfl rfl ?_)
            | ((with_reducible refine tag_call ?_); refine reg_callE [] (digit_spec w0 hw i (d' + 1) hi (by omega) _ (by omega)) rfl rfl rfl sub_nil rfl ?_)
            | ((with_reducible refine tag_field ?_); refine reg_field rfl ?_)
            | ((with_reducible refine tag_extract ?_); refine reg_pure rfl ?_)
            | ((with_reducible refine tag_bin ?_); first | refine reg_add64 rfl rfl (by omega) ?_ | refine reg_sub64 rfl rfl (by omega) ?_ | refine reg_gtr rfl rfl ?_)
            | ((with_reducible refine tag_un ?_); first | refine reg_not rfl ?_ | refine reg_notB rfl ?_)
            | ((with_reducible refine tag_box ?_); first | refine reg_box (cs := [_]) rfl (fun nb => ?_) | refine reg_box (cs := [_, _]) rfl (fun nb => ?_) | refine reg_box (cs := [_, _, _]) rfl (fun nb => ?_) | refine reg_box (cs := [_, _, _, _]) rfl (fun nb => ?_) | refine reg_box (cs := [_, _, _, _, _]) rfl (fun nb => ?_) | refine reg_box (cs := [_, _, _, _, _, _]) rfl (fun nb => ?_) | refine reg_box (cs := [_, _, _, _, _, _, _]) rfl (fun nb => ?_) | refine reg_box (cs := [_, _, _, _, _, _, _, _]) rfl (fun nb => ?_)))
        | refine reg_nil ?_
        | refine run_condT rfl ?_
        | refine run_condF rfl ?_)
      refine run_take [0, 0] rfl ?_
      refine cut_end ⟨rfl, (d', (A.node s c).1 + dig i (d' + 1), (A.node s c).2.2, acc ++ [(A.node s c).1], a', cap'), ⟨rfl, rfl, int_eq (by dsimp only; omega), rfl, rfl, ?_, trivial⟩, ⟨?_, by dsimp only; omega, by dsimp only; omega, ?_, sm_node hsm, e.symm⟩, ?_⟩
      · rw [List.length_append]; rfl
      · have e2 : intL (acc ++ [(A.node s c).1]) = intL acc ++ [.int .i64 (A.node s c).1] := by simp [intL]
        rw [e2, List.length_append]; rfl
      · simp; omega
      · simp
end Go.Proofs.YtilnknokgflkjaaDoor

/- The plain model of package array: place, Get, Set, Swap. -/
namespace Sim
open Go Go.Vc

theorem reads_twice (s : Sp) (a : Int) : (s.reads a).2.reads a = ((s.reads a).1, (s.reads a).2.reads a |>.2) := by
  unfold Sp.reads
  by_cases he : s.ended = true
  · simp [he]
  · cases hk : lookW s.kn a with
    | none => simp [he]
    | some w => simp [he, hk]
theorem value_reads (s : Sp) (a x : Int) : ((s.reads a).2.value x) = s.value x := by
  unfold Sp.reads
  split
  · rfl
  · split <;> rfl
theorem get_get (s : Sp) (a : Int) : ((s.get a).2.get a).1 = (s.get a).1 := by
  by_cases h : (s.reads a).1 = true
  · have h2 : ((s.reads a).2.reads a).1 = true := by rw [reads_twice]; exact h
    simp [Sp.get, h, h2, value_reads]
  · have h2 : ((s.reads a).2.reads a).1 = false := by rw [reads_twice]; simpa using h
    simp [Sp.get, h, h2]

theorem way_len (A : Ar) (i : Int) : ∀ (d : Nat) (c : Int) (s : Sp) (acc l : List Int), (A.way i d c s acc).1 = some l → l.length = acc.length + d ∧ ((∀ x ∈ acc, 0 ≤ x ∧ x ≤ 4096) → ∀ x ∈ l, 0 ≤ x ∧ x ≤ 4096)
  | 0, c, s, acc, l, h => by
    simp only [Ar.way, Option.some.injEq] at h
    subst h
    exact ⟨rfl, fun h => h⟩
  | d + 1, c, s, acc, l, h => by
    simp only [Ar.way] at h
    split at h
    · obtain ⟨h1, h2⟩ := way_len A i d _ _ _ l h
      refine ⟨by simp at h1; omega, fun h3 => h2 fun x hx => ?_⟩
      rcases List.mem_append.1 hx with hx | hx
      · exact h3 x hx
      · simp at hx; subst hx; exact A.node_bd s c
    · cases h

def lastD (l : List Int) : Int := l.getLastD 0
def Ar.place (A : Ar) (s : Sp) (i : Int) : Int × Int × Sp :=
  if i < 0 then (0, 3, s) else
  if (s.get (A.root + 1)).1 ≤ i then (0, 3, (s.get (A.root + 1)).2) else
  if (A.many (s.get (A.root + 1)).2).2.2.1 then
    match A.way i (A.many (s.get (A.root + 1)).2).2.1.toNat A.root (A.many (s.get (A.root + 1)).2).2.2.2 [] with
    | (none, t) => (0, 24, t)
    | (some l, t) => (lastD l + dig i 1, 0, t)
  else (0, 24, (A.many (s.get (A.root + 1)).2).2.2.2)
def Ar.get (A : Ar) (s : Sp) (i : Int) : Int × Int × Sp :=
  if (A.place s i).2.1 = 0 then (((A.place s i).2.2.get (A.place s i).1).1, 0, ((A.place s i).2.2.get (A.place s i).1).2) else (0, (A.place s i).2.1, (A.place s i).2.2)
def Ar.set (A : Ar) (s : Sp) (i v : Int) : Int × Int × Sp :=
  if (A.place s i).2.1 = 0 then (((A.place s i).2.2.get (A.place s i).1).1, 0, ((A.place s i).2.2.get (A.place s i).1).2.put (A.place s i).1 v) else (0, (A.place s i).2.1, (A.place s i).2.2)
def Ar.swap (A : Ar) (s : Sp) (i j : Int) : Int × Sp :=
  let g := s.get (A.root + 1)
  if i < 0 ∨ j < 0 ∨ g.1 ≤ i ∨ g.1 ≤ j then (3, g.2) else
  let x := A.place g.2 i
  if x.2.1 = 0 then
    let y := A.place x.2.2 j
    if y.2.1 = 0 then
      let v := y.2.2.get x.1
      let w := v.2.get y.1
      (0, (w.2.put x.1 w.1).put y.1 v.1)
    else (y.2.1, y.2.2)
  else (x.2.1, x.2.2)
theorem sm_place {A : Ar} {s : Sp} {j : Nat} {i : Int} (h : Sm s j) : Sm (A.place s i).2.2 j := by
  unfold Ar.place
  split
  · exact h
  · split
    · exact sm_get h
    · split
      · have := sm_way (A := A) (i := i) (d := (A.many (s.get (A.root + 1)).2).2.1.toNat) (c := A.root) (acc := []) (sm_many (A := A) (sm_get (a := A.root + 1) h))
        split
        · rename_i t ht; rw [ht] at this; exact this
        · rename_i l t ht; rw [ht] at this; exact this
      · exact sm_many (sm_get h)
theorem many_ok {A : Ar} {s : Sp} (h : (A.many s).2.2.1 = true) : (A.many s).1 = (s.get (A.root + 1)).1 ∧ 0 ≤ (A.many s).1 ∧ (A.many s).1 ≤ 4096 ∧ (A.many s).2.1 = dep (A.many s).1 := by
  unfold Ar.many at h ⊢
  split at h
  · cases h
  · rename_i hn
    rw [if_neg hn]
    exact ⟨rfl, by dsimp only; omega, by dsimp only; omega, rfl⟩
end Sim

namespace Go.Proofs.YtilnknokgflkjaaDoor
open Go.Vc Sim
set_option maxHeartbeats 4000000

theorem intL_get (l : List Int) (k : Nat) (x : Int) (h : l[k]? = some x) : nth (intL l) k = some (.int .i64 x) := by
  rw [nth_eq, intL, List.getElem?_map, h]; rfl

theorem place_spec (w0 : World) (hw : PowOk w0) (p : Nat) (A : Ar) (hA : A.Ok) (s : Sp) (i : Int) (hsm : Sm s 0) : FnE PP w0 [] 38 [arrV A, spP p, .int .i64 i] [SpaceA p s]
    (.tuple #[.int .i64 (A.place s i).1, .int .i64 (A.place s i).2.1]) [SpaceA p (A.place s i).2.2] := by
  obtain ⟨_, h1, h2⟩ := id hA
  refine fn_of_run en38 fn38 rfl rfl rfl ?_ -- @@FN 38
  repeat (first | refine run_seq ?_ | refine run_block ?_ | refine run_skip ?_ | refine run_inBlock ?_)
  first | refine run_region (by kernel_rfl) ?_ | refine run_drawA PP_mixed (by kernel_rfl) (by kernel_rfl) ?_
  repeat' (refine reg_cons rfl ?_; first
        | ((with_reducible refine tag_guard ?_); first | refine reg_guard_in rfl ?_ | refine reg_guard_out rfl ?_ | refine reg_guard_none rfl ?_ | refine reg_guard rfl rfl (fun _ => ?_) (fun _ => ?_))
        | ((with_reducible refine tag_move ?_); refine reg_pure rfl ?_)
        | ((with_reducible refine tag_assign ?_); refine reg_pure rfl ?_)
        | ((with_reducible refine tag_load ?_); first | refine reg_load_sh 0 rfl rfl rfl ?_ | refine reg_load_sh 1 rfl rfl rfl ?_ | refine reg_load_sh 2 rfl rfl rfl ?_ | refine reg_load_sh 3 rfl rfl rfl ?_ | refine reg_load_sh 4 rfl rfl rfl ?_ | refine reg_load_sh 5 rfl rfl rfl ?_ | refine reg_load_pt 0 rfl rfl rfl ?_ | refine reg_load_pt 1 rfl rfl rfl ?_ | refine reg_load_pt 2 rfl rfl rfl ?_ | refine reg_load_pt 3 rfl rfl rfl ?_ | refine reg_load_pt 4 rfl rfl rfl ?_ | refine reg_load_pt 5 rfl rfl rfl ?_)
        | ((with_reducible refine tag_call ?_); refine reg_len_slice rfl ?_)
        | ((with_reducible refine tag_field ?_); refine reg_field rfl ?_)
        | ((with_reducible refine tag_extract ?_); refine reg_pure rfl ?_)
        | ((with_reducible refine tag_bin ?_); first | refine reg_add64 rfl rfl (by omega) ?_ | refine reg_sub64 rfl rfl (by omega) ?_ | refine reg_lss rfl rfl ?_ | refine reg_geq rfl rfl ?_)
        | ((with_reducible refine tag_un ?_); first | refine reg_not rfl ?_ | refine reg_notB rfl ?_)
        | ((with_reducible refine tag_pick ?_); first | refine reg_pickT rfl ?_ | refine reg_pickF rfl ?_ | refine reg_pick rfl rfl rfl ?_)
        | ((with_reducible refine tag_index ?_); first | refine reg_index_slice rfl rfl (by omega) ?_ | refine reg_index_array rfl rfl (by omega) ?_)
        | ((with_reducible refine tag_box ?_); first | refine reg_box (cs := [_]) rfl (fun nb => ?_) | refine reg_box (cs := [_, _]) rfl (fun nb => ?_) | refine reg_box (cs := [_, _, _]) rfl (fun nb => ?_) | refine reg_box (cs := [_, _, _, _]) rfl (fun nb => ?_) | refine reg_box (cs := [_, _, _, _, _]) rfl (fun nb => ?_) | refine reg_box (cs := [_, _, _, _, _, _]) rfl (fun nb => ?_) | refine reg_box (cs := [_, _, _, _, _, _, _]) rfl (fun nb => ?_) | refine reg_box (cs := [_, _, _, _, _, _, _, _]) rfl (fun nb => ?_)))
  all_goals refine reg_nil ?_
  all_goals repeat (first | refine run_seq ?_ | refine run_block ?_ | refine run_skip ?_ | refine run_inBlock ?_)
  refine run_share [1] rfl ?_
  by_cases h0 : i < 0
  · have d0 : decide (i < 0) = true := decide_eq_true h0
    have e : A.place s i = (0, 3, s) := by simp [Ar.place, h0]
    repeat' (first
      | refine run_seq ?_
      | refine run_region (by kernel_rfl) ?_
      | refine run_drawA PP_mixed (by kernel_rfl) (by kernel_rfl) ?_
      | refine run_skip ?_
      | refine run_block ?_
      | refine run_inBlock ?_
      | refine run_inLoop ?_
      | refine run_exit rfl ?_
      | (refine reg_cons rfl ?_; first
          | (refine reg_lss rfl rfl ?_; rw [d0])
          | ((with_reducible refine tag_guard ?_); first | refine reg_guard_in rfl ?_ | refine reg_guard_out rfl ?_ | refine reg_guard_none rfl ?_ | refine reg_guard rfl rfl (fun _ => ?_) (fun _ => ?_))
          | ((with_reducible refine tag_move ?_); refine reg_pure rfl ?_)
          | ((with_reducible refine tag_assign ?_); refine reg_pure rfl ?_)
          | ((with_reducible refine tag_load ?_); first | refine reg_load_sh 0 rfl rfl rfl ?_ | refine reg_load_sh 1 rfl rfl rfl ?_ | refine reg_load_sh 2 rfl rfl rfl ?_ | refine reg_load_sh 3 rfl rfl rfl ?_ | refine reg_load_sh 4 rfl rfl rfl ?_ | refine reg_load_sh 5 rfl rfl rfl ?_ | refine reg_load_pt 0 rfl rfl rfl ?_ | refine reg_load_pt 1 rfl rfl rfl ?_ | refine reg_load_pt 2 rfl rfl rfl ?_ | refine reg_load_pt 3 rfl rfl rfl ?_ | refine reg_load_pt 4 rfl rfl rfl ?_ | refine reg_load_pt 5 rfl rfl rfl ?_)
          | ((with_reducible refine tag_call ?_); refine reg_len_slice rfl ?_)
          | ((with_reducible refine tag_field ?_); refine reg_field rfl ?_)
          | ((with_reducible refine tag_extract ?_); refine reg_pure rfl ?_)
          | ((with_reducible refine tag_bin ?_); first | refine reg_add64 rfl rfl (by omega) ?_ | refine reg_sub64 rfl rfl (by omega) ?_ | refine reg_lss rfl rfl ?_ | refine reg_geq rfl rfl ?_)
          | ((with_reducible refine tag_un ?_); first | refine reg_not rfl ?_ | refine reg_notB rfl ?_)
          | ((with_reducible refine tag_pick ?_); first | refine reg_pickT rfl ?_ | refine reg_pickF rfl ?_ | refine reg_pick rfl rfl rfl ?_)
          | ((with_reducible refine tag_index ?_); first | refine reg_index_slice rfl rfl (by omega) ?_ | refine reg_index_array rfl rfl (by omega) ?_)
          | ((with_reducible refine tag_box ?_); first | refine reg_box (cs := [_]) rfl (fun nb => ?_) | refine reg_box (cs := [_, _]) rfl (fun nb => ?_) | refine reg_box (cs := [_, _, _]) rfl (fun nb => ?_) | refine reg_box (cs := [_, _, _, _]) rfl (fun nb => ?_) | refine reg_box (cs := [_, _, _, _, _]) rfl (fun nb => ?_) | refine reg_box (cs := [_, _, _, _, _, _]) rfl (fun nb => ?_) | refine reg_box (cs := [_, _, _, _, _, _, _]) rfl (fun nb => ?_) | refine reg_box (cs := [_, _, _, _, _, _, _, _]) rfl (fun nb => ?_)))
      | refine reg_nil ?_
      | refine run_condT rfl ?_
      | refine run_condF rfl ?_)
    rw [e]
    exact ret_tmp2 rfl ⟨rfl, rfl⟩
  · have d0 : decide (i < 0) = false := decide_eq_false h0
    generalize hg : s.get (A.root + 1) = g
    have hsm2 : Sm g.2 0 := hg ▸ sm_get hsm
    have hG := getS w0 p s (A.root + 1) hsm
    rw [hg] at hG
    by_cases h3 : g.1 ≤ i
    · have d3 : decide (g.1 ≤ i) = true := decide_eq_true h3
      have e : A.place s i = (0, 3, g.2) := by simp [Ar.place, h0, hg, h3]
      repeat' (first
        | refine run_seq ?_
        | refine run_region (by kernel_rfl) ?_
        | refine run_drawA PP_mixed (by kernel_rfl) (by kernel_rfl) ?_
        | refine run_skip ?_
        | refine run_block ?_
        | refine run_inBlock ?_
        | refine run_inLoop ?_
        | refine run_exit rfl ?_
        | (refine reg_cons rfl ?_; first
            | (refine reg_lss rfl rfl ?_; rw [d0])
            | (refine reg_geq rfl rfl ?_; rw [d3])
            | ((with_reducible refine tag_guard ?_); first | refine reg_guard_in rfl ?_ | refine reg_guard_out rfl ?_ | refine reg_guard_none rfl ?_ | refine reg_guard rfl rfl (fun _ => ?_) (fun _ => ?_))
            | ((with_reducible refine tag_move ?_); refine reg_pure rfl ?_)
            | ((with_reducible refine tag_assign ?_); refine reg_pure rfl ?_)
            | ((with_reducible refine tag_load ?_); first | refine reg_load_sh 0 rfl rfl rfl ?_ | refine reg_load_sh 1 rfl rfl rfl ?_ | refine reg_load_sh 2 rfl rfl rfl ?_ | refine reg_load_sh 3 rfl rfl rfl ?_ | refine reg_load_sh 4 rfl rfl rfl ?_ | refine reg_load_sh 5 rfl rfl rfl ?_ | refine reg_load_pt 0 rfl rfl rfl ?_ | refine reg_load_pt 1 rfl rfl rfl ?_ | refine reg_load_pt 2 rfl rfl rfl ?_ | refine reg_load_pt 3 rfl rfl rfl ?_ | refine reg_load_pt 4 rfl rfl rfl ?_ | refine reg_load_pt 5 rfl rfl rfl ?_)
            | ((with_reducible refine tag_call ?_); first | refine reg_callE [0] hG rfl rfl rfl sub_nil rfl ?_ | refine reg_len_slice rfl ?_)
            | ((with_reducible refine tag_field ?_); refine reg_field rfl ?_)
            | ((with_reducible refine tag_extract ?_); refine reg_pure rfl ?_)
            | ((with_reducible refine tag_bin ?_); first | refine reg_add64 rfl rfl (by omega) ?_ | refine reg_sub64 rfl rfl (by omega) ?_ | refine reg_lss rfl rfl ?_ | refine reg_geq rfl rfl ?_)
            | ((with_reducible refine tag_un ?_); first | refine reg_not rfl ?_ | refine reg_notB rfl ?_)
            | ((with_reducible refine tag_pick ?_); first | refine reg_pickT rfl ?_ | refine reg_pickF rfl ?_ | refine reg_pick rfl rfl rfl ?_)
            | ((with_reducible refine tag_index ?_); first | refine reg_index_slice rfl rfl (by omega) ?_ | refine reg_index_array rfl rfl (by omega) ?_)
            | ((with_reducible refine tag_box ?_); first | refine reg_box (cs := [_]) rfl (fun nb => ?_) | refine reg_box (cs := [_, _]) rfl (fun nb => ?_) | refine reg_box (cs := [_, _, _]) rfl (fun nb => ?_) | refine reg_box (cs := [_, _, _, _]) rfl (fun nb => ?_) | refine reg_box (cs := [_, _, _, _, _]) rfl (fun nb => ?_) | refine reg_box (cs := [_, _, _, _, _, _]) rfl (fun nb => ?_) | refine reg_box (cs := [_, _, _, _, _, _, _]) rfl (fun nb => ?_) | refine reg_box (cs := [_, _, _, _, _, _, _, _]) rfl (fun nb => ?_)))
        | refine reg_nil ?_
        | refine run_condT rfl ?_
        | refine run_condF rfl ?_)
      rw [e]
      exact ret_tmp2 rfl ⟨rfl, rfl⟩
    · have d3 : decide (g.1 ≤ i) = false := decide_eq_false h3
      generalize hm : A.many g.2 = m
      have hsm3 : Sm m.2.2.2 0 := hm ▸ sm_many hsm2
      have hM := many_spec w0 hw p A hA g.2 hsm2
      rw [hm] at hM
      repeat' (first
        | refine run_seq ?_
        | refine run_region (by kernel_rfl) ?_
        | refine run_drawA PP_mixed (by kernel_rfl) (by kernel_rfl) ?_
        | refine run_skip ?_
        | refine run_block ?_
        | refine run_inBlock ?_
        | refine run_inLoop ?_
        | refine run_exit rfl ?_
        | (refine reg_cons rfl ?_; first
            | (refine reg_lss rfl rfl ?_; rw [d0])
            | (refine reg_geq rfl rfl ?_; rw [d3])
            | ((with_reducible refine tag_guard ?_); first | refine reg_guard_in rfl ?_ | refine reg_guard_out rfl ?_ | refine reg_guard_none rfl ?_ | refine reg_guard rfl rfl (fun _ => ?_) (fun _ => ?_))
            | ((with_reducible refine tag_move ?_); refine reg_pure rfl ?_)
            | ((with_reducible refine tag_assign ?_); refine reg_pure rfl ?_)
            | ((with_reducible refine tag_load ?_); first | refine reg_load_sh 0 rfl rfl rfl ?_ | refine reg_load_sh 1 rfl rfl rfl ?_ | refine reg_load_sh 2 rfl rfl rfl ?_ | refine reg_load_sh 3 rfl rfl rfl ?_ | refine reg_load_sh 4 rfl rfl rfl ?_ | refine reg_load_sh 5 rfl rfl rfl ?_ | refine reg_load_pt 0 rfl rfl rfl ?_ | refine reg_load_pt 1 rfl rfl rfl ?_ | refine reg_load_pt 2 rfl rfl rfl ?_ | refine reg_load_pt 3 rfl rfl rfl ?_ | refine reg_load_pt 4 rfl rfl rfl ?_ | refine reg_load_pt 5 rfl rfl rfl ?_)
            | ((with_reducible refine tag_call ?_); first | refine reg_callE [0] hG rfl rfl rfl sub_nil rfl ?_ | refine reg_callE [0] hM rfl rfl rfl sub_nil rfl ?_ | refine reg_len_slice rfl ?_)
            | ((with_reducible refine tag_field ?_); refine reg_field rfl ?_)
            | ((with_reducible refine tag_extract ?_); refine reg_pure rfl ?_)
            | ((with_reducible refine tag_bin ?_); first | refine reg_add64 rfl rfl (by omega) ?_ | refine reg_sub64 rfl rfl (by omega) ?_ | refine reg_lss rfl rfl ?_ | refine reg_geq rfl rfl ?_)
            | ((with_reducible refine tag_un ?_); first | refine reg_not rfl ?_ | refine reg_notB rfl ?_)
            | ((with_reducible refine tag_pick ?_); first | refine reg_pickT rfl ?_ | refine reg_pickF rfl ?_ | refine reg_pick rfl rfl rfl ?_)
            | ((with_reducible refine tag_index ?_); first | refine reg_index_slice rfl rfl (by omega) ?_ | refine reg_index_array rfl rfl (by omega) ?_)
            | ((with_reducible refine tag_box ?_); first | refine reg_box (cs := [_]) rfl (fun nb => ?_) | refine reg_box (cs := [_, _]) rfl (fun nb => ?_) | refine reg_box (cs := [_, _, _]) rfl (fun nb => ?_) | refine reg_box (cs := [_, _, _, _]) rfl (fun nb => ?_) | refine reg_box (cs := [_, _, _, _, _]) rfl (fun nb => ?_) | refine reg_box (cs := [_, _, _, _, _, _]) rfl (fun nb => ?_) | refine reg_box (cs := [_, _, _, _, _, _, _]) rfl (fun nb => ?_) | refine reg_box (cs := [_, _, _, _, _, _, _, _]) rfl (fun nb => ?_)))
        | refine reg_nil ?_
        | refine run_condT rfl ?_
        | refine run_condF rfl ?_)
      refine run_condV rfl (fun hE => ?_) (fun hE => ?_)
      · have hE : m.2.2.1 = false := by simpa using hE
        have e : A.place s i = (0, 24, m.2.2.2) := by simp [Ar.place, h0, hg, h3, hm, hE]
        repeat' (first
          | refine run_seq ?_
          | refine run_region (by kernel_rfl) ?_
          | refine run_drawA PP_mixed (by kernel_rfl) (by kernel_rfl) ?_
          | refine run_skip ?_
          | refine run_block ?_
          | refine run_inBlock ?_
          | refine run_inLoop ?_
          | refine run_exit rfl ?_
          | (refine reg_cons rfl ?_; first
              | ((with_reducible refine tag_guard ?_); first | refine reg_guard_in rfl ?_ | refine reg_guard_out rfl ?_ | refine reg_guard_none rfl ?_ | refine reg_guard rfl rfl (fun _ => ?_) (fun _ => ?_))
              | ((with_reducible refine tag_move ?_); refine reg_pure rfl ?_)
              | ((with_reducible refine tag_assign ?_); refine reg_pure rfl ?_)
              | ((with_reducible refine tag_load ?_); first | refine reg_load_sh 0 rfl rfl rfl ?_ | refine reg_load_sh 1 rfl rfl rfl ?_ | refine reg_load_sh 2 rfl rfl rfl ?_ | refine reg_load_sh 3 rfl rfl rfl ?_ | refine reg_load_sh 4 rfl rfl rfl ?_ | refine reg_load_sh 5 rfl rfl rfl ?_ | refine reg_load_pt 0 rfl rfl rfl ?_ | refine reg_load_pt 1 rfl rfl rfl ?_ | refine reg_load_pt 2 rfl rfl rfl ?_ | refine reg_load_pt 3 rfl rfl rfl ?_ | refine reg_load_pt 4 rfl rfl rfl ?_ | refine reg_load_pt 5 rfl rfl rfl ?_)
              | ((with_reducible refine tag_call ?_); refine reg_len_slice rfl ?_)
              | ((with_reducible refine tag_field ?_); refine reg_field rfl ?_)
              | ((with_reducible refine tag_extract ?_); refine reg_pure rfl ?_)
              | ((with_reducible refine tag_bin ?_); first | refine reg_add64 rfl rfl (by omega) ?_ | refine reg_sub64 rfl rfl (by omega) ?_ | refine reg_lss rfl rfl ?_ | refine reg_geq rfl rfl ?_)
              | ((with_reducible refine tag_un ?_); first | refine reg_not rfl ?_ | refine reg_notB rfl ?_)
              | ((with_reducible refine tag_pick ?_); first | refine reg_pickT rfl ?_ | refine reg_pickF rfl ?_ | refine reg_pick rfl rfl rfl ?_)
              | ((with_reducible refine tag_index ?_); first | refine reg_index_slice rfl rfl (by omega) ?_ | refine reg_index_array rfl rfl (by omega) ?_)
              | ((with_reducible refine tag_box ?_); first | refine reg_box (cs := [_]) rfl (fun nb => ?_) | refine reg_box (cs := [_, _]) rfl (fun nb => ?_) | refine reg_box (cs := [_, _, _]) rfl (fun nb => ?_) | refine reg_box (cs := [_, _, _, _]) rfl (fun nb => ?_) | refine reg_box (cs := [_, _, _, _, _]) rfl (fun nb => ?_) | refine reg_box (cs := [_, _, _, _, _, _]) rfl (fun nb => ?_) | refine reg_box (cs := [_, _, _, _, _, _, _]) rfl (fun nb => ?_) | refine reg_box (cs := [_, _, _, _, _, _, _, _]) rfl (fun nb => ?_)))
          | refine reg_nil ?_
          | refine run_condT rfl ?_
          | refine run_condF rfl ?_)
        rw [e]
        exact ret_tmp2 rfl ⟨rfl, rfl⟩
      · have hE : m.2.2.1 = true := by simpa using hE
        have hmo := many_ok (A := A) (s := g.2) (by rw [hm]; exact hE)
        rw [hm] at hmo
        have hgg : (g.2.get (A.root + 1)).1 = g.1 := by rw [← hg]; exact get_get s _
        rw [hgg] at hmo
        have hdp := dep_le m.1
        have hdp0 : 0 < dep m.1 := by unfold dep; (repeat' split) <;> omega
        have hn : m.2.1.toNat = dep m.1 := by omega
        generalize hW : A.way i m.2.1.toNat A.root m.2.2.2 [] = W
        have hWs := way_spec w0 hw p A hA i (by omega) m.2.1.toNat (by omega) m.2.1 (by omega) m.2.2.2 hsm3
        have hWl := way_len A i m.2.1.toNat A.root m.2.2.2 []
        have hsm4 : Sm W.2 0 := hW ▸ sm_way hsm3
        rw [hW] at hWs hWl
        obtain ⟨o, t⟩ := W
        cases o with
        | none =>
          have e : A.place s i = (0, 24, t) := by simp [Ar.place, h0, hg, h3, hm, hE, hW]
          have hWn : FnE PP w0 [] 34 [arrV A, spP p, .int .i64 i, .int .i64 m.2.1] [SpaceA p m.2.2.2] (.tuple #[.slice none 0 0, .bool false]) [SpaceA p t] := hWs
          repeat' (first
            | refine run_seq ?_
            | refine run_region (by kernel_rfl) ?_
            | refine run_drawA PP_mixed (by kernel_rfl) (by kernel_rfl) ?_
            | refine run_skip ?_
            | refine run_block ?_
            | refine run_inBlock ?_
            | refine run_inLoop ?_
            | refine run_exit rfl ?_
            | (refine reg_cons rfl ?_; first
                | ((with_reducible refine tag_guard ?_); first | refine reg_guard_in rfl ?_ | refine reg_guard_out rfl ?_ | refine reg_guard_none rfl ?_ | refine reg_guard rfl rfl (fun _ => ?_) (fun _ => ?_))
                | ((with_reducible refine tag_move ?_); refine reg_pure rfl ?_)
                | ((with_reducible refine tag_assign ?_); refine reg_pure rfl ?_)
                | ((with_reducible refine tag_load ?_); first | refine reg_load_sh 0 rfl rfl rfl ?_ | refine reg_load_sh 1 rfl rfl rfl ?_ | refine reg_load_sh 2 rfl rfl rfl ?_ | refine reg_load_sh 3 rfl rfl rfl ?_ | refine reg_load_sh 4 rfl rfl rfl ?_ | refine reg_load_sh 5 rfl rfl rfl ?_ | refine reg_load_pt 0 rfl rfl rfl ?_ | refine reg_load_pt 1 rfl rfl rfl ?_ | refine reg_load_pt 2 rfl rfl rfl ?_ | refine reg_load_pt 3 rfl rfl rfl ?_ | refine reg_load_pt 4 rfl rfl rfl ?_ | refine reg_load_pt 5 rfl rfl rfl ?_)
                | ((with_reducible refine tag_call ?_); first | refine reg_callE [0] hWn rfl rfl rfl sub_nil rfl ?_ | refine reg_len_slice rfl ?_)
                | ((with_reducible refine tag_field ?_); refine reg_field rfl ?_)
                | ((with_reducible refine tag_extract ?_); refine reg_pure rfl ?_)
                | ((with_reducible refine tag_bin ?_); first | refine reg_add64 rfl rfl (by omega) ?_ | refine reg_sub64 rfl rfl (by omega) ?_ | refine reg_lss rfl rfl ?_ | refine reg_geq rfl rfl ?_)
                | ((with_reducible refine tag_un ?_); first | refine reg_not rfl ?_ | refine reg_notB rfl ?_)
                | ((with_reducible refine tag_pick ?_); first | refine reg_pickT rfl ?_ | refine reg_pickF rfl ?_ | refine reg_pick rfl rfl rfl ?_)
                | ((with_reducible refine tag_index ?_); first | refine reg_index_slice rfl rfl (by omega) ?_ | refine reg_index_array rfl rfl (by omega) ?_)
                | ((with_reducible refine tag_box ?_); first | refine reg_box (cs := [_]) rfl (fun nb => ?_) | refine reg_box (cs := [_, _]) rfl (fun nb => ?_) | refine reg_box (cs := [_, _, _]) rfl (fun nb => ?_) | refine reg_box (cs := [_, _, _, _]) rfl (fun nb => ?_) | refine reg_box (cs := [_, _, _, _, _]) rfl (fun nb => ?_) | refine reg_box (cs := [_, _, _, _, _, _]) rfl (fun nb => ?_) | refine reg_box (cs := [_, _, _, _, _, _, _]) rfl (fun nb => ?_) | refine reg_box (cs := [_, _, _, _, _, _, _, _]) rfl (fun nb => ?_)))
            | refine reg_nil ?_
            | refine run_condT rfl ?_
            | refine run_condF rfl ?_)
          rw [e]
          exact ret_tmp2 rfl ⟨rfl, rfl⟩
        | some l =>
          obtain ⟨hl1, hl2⟩ := hWl l rfl
          have e : A.place s i = (lastD l + dig i 1, 0, t) := by simp [Ar.place, h0, hg, h3, hm, hE, hW]
          obtain ⟨l', x, rfl⟩ : ∃ l' x, l = l' ++ [x] := ⟨l.dropLast, l.getLast (by intro h; subst h; simp at hl1; omega), (List.dropLast_concat_getLast _).symm⟩
          rw [List.length_nil, Nat.zero_add, hn] at hl1
          have hx := hl2 (by simp) x (by simp)
          have hdg := dig_bd i 1
          have hlast : lastD (l' ++ [x]) = x := by simp [lastD]
          repeat (first | refine run_seq ?_ | refine run_block ?_ | refine run_skip ?_ | refine run_inBlock ?_)
          first | refine run_region (by kernel_rfl) ?_ | refine run_drawA PP_mixed (by kernel_rfl) (by kernel_rfl) ?_
          repeat' (refine reg_cons rfl ?_; first
                | (refine reg_call [0] hWs rfl rfl rfl sub_nil ?_; rintro v Γ' ⟨a, cap, rfl, rfl⟩)
                | ((with_reducible refine tag_guard ?_); first | refine reg_guard_in rfl ?_ | refine reg_guard_out rfl ?_ | refine reg_guard_none rfl ?_ | refine reg_guard rfl rfl (fun _ => ?_) (fun _ => ?_))
                | ((with_reducible refine tag_move ?_); refine reg_pure rfl ?_)
                | ((with_reducible refine tag_assign ?_); refine reg_pure rfl ?_)
                | ((with_reducible refine tag_load ?_); first | refine reg_load_sh 0 rfl rfl rfl ?_ | refine reg_load_sh 1 rfl rfl rfl ?_ | refine reg_load_sh 2 rfl rfl rfl ?_ | refine reg_load_sh 3 rfl rfl rfl ?_ | refine reg_load_sh 4 rfl rfl rfl ?_ | refine reg_load_sh 5 rfl rfl rfl ?_ | refine reg_load_pt 0 rfl rfl rfl ?_ | refine reg_load_pt 1 rfl rfl rfl ?_ | refine reg_load_pt 2 rfl rfl rfl ?_ | refine reg_load_pt 3 rfl rfl rfl ?_ | refine reg_load_pt 4 rfl rfl rfl ?_ | refine reg_load_pt 5 rfl rfl rfl ?_)
                | ((with_reducible refine tag_call ?_); refine reg_len_slice rfl ?_)
                | ((with_reducible refine tag_field ?_); refine reg_field rfl ?_)
                | ((with_reducible refine tag_extract ?_); refine reg_pure rfl ?_)
                | ((with_reducible refine tag_bin ?_); first | refine reg_add64 rfl rfl (by omega) ?_ | refine reg_sub64 rfl rfl (by omega) ?_ | refine reg_lss rfl rfl ?_ | refine reg_geq rfl rfl ?_)
                | ((with_reducible refine tag_un ?_); first | refine reg_not rfl ?_ | refine reg_notB rfl ?_)
                | ((with_reducible refine tag_pick ?_); first | refine reg_pickT rfl ?_ | refine reg_pickF rfl ?_ | refine reg_pick rfl rfl rfl ?_)
                | ((with_reducible refine tag_index ?_); first | refine reg_index_slice rfl rfl (by omega) ?_ | refine reg_index_array rfl rfl (by omega) ?_)
                | ((with_reducible refine tag_box ?_); first | refine reg_box (cs := [_]) rfl (fun nb => ?_) | refine reg_box (cs := [_, _]) rfl (fun nb => ?_) | refine reg_box (cs := [_, _, _]) rfl (fun nb => ?_) | refine reg_box (cs := [_, _, _, _]) rfl (fun nb => ?_) | refine reg_box (cs := [_, _, _, _, _]) rfl (fun nb => ?_) | refine reg_box (cs := [_, _, _, _, _, _]) rfl (fun nb => ?_) | refine reg_box (cs := [_, _, _, _, _, _, _]) rfl (fun nb => ?_) | refine reg_box (cs := [_, _, _, _, _, _, _, _]) rfl (fun nb => ?_)))
          all_goals refine reg_nil ?_
          all_goals repeat (first | refine run_seq ?_ | refine run_block ?_ | refine run_skip ?_ | refine run_inBlock ?_)
          repeat (first | refine run_seq ?_ | refine run_block ?_ | refine run_skip ?_ | refine run_inBlock ?_)
          first | refine run_region (by kernel_rfl) ?_ | refine run_drawA PP_mixed (by kernel_rfl) (by kernel_rfl) ?_
          repeat' (refine reg_cons rfl ?_; first
                | ((with_reducible refine tag_guard ?_); first | refine reg_guard_in rfl ?_ | refine reg_guard_out rfl ?_ | refine reg_guard_none rfl ?_ | refine reg_guard rfl rfl (fun _ => ?_) (fun _ => ?_))
                | ((with_reducible refine tag_move ?_); refine reg_pure rfl ?_)
                | ((with_reducible refine tag_assign ?_); refine reg_pure rfl ?_)
                | ((with_reducible refine tag_load ?_); first | refine reg_load_sh 0 rfl rfl rfl ?_ | refine reg_load_sh 1 rfl rfl rfl ?_ | refine reg_load_sh 2 rfl rfl rfl ?_ | refine reg_load_sh 3 rfl rfl rfl ?_ | refine reg_load_sh 4 rfl rfl rfl ?_ | refine reg_load_sh 5 rfl rfl rfl ?_ | refine reg_load_pt 0 rfl rfl rfl ?_ | refine reg_load_pt 1 rfl rfl rfl ?_ | refine reg_load_pt 2 rfl rfl rfl ?_ | refine reg_load_pt 3 rfl rfl rfl ?_ | refine reg_load_pt 4 rfl rfl rfl ?_ | refine reg_load_pt 5 rfl rfl rfl ?_)
                | ((with_reducible refine tag_call ?_); refine reg_len_slice rfl ?_)
                | ((with_reducible refine tag_field ?_); refine reg_field rfl ?_)
                | ((with_reducible refine tag_extract ?_); refine reg_pure rfl ?_)
                | ((with_reducible refine tag_bin ?_); first | refine reg_add64 rfl rfl (by omega) ?_ | refine reg_sub64 rfl rfl (by omega) ?_ | refine reg_lss rfl rfl ?_ | refine reg_geq rfl rfl ?_)
                | ((with_reducible refine tag_un ?_); first | refine reg_not rfl ?_ | refine reg_notB rfl ?_)
                | ((with_reducible refine tag_pick ?_); first | refine reg_pickT rfl ?_ | refine reg_pickF rfl ?_ | refine reg_pick rfl rfl rfl ?_)
                | ((with_reducible refine tag_index ?_); first | refine reg_index_slice rfl rfl (by omega) ?_ | refine reg_index_array rfl rfl (by omega) ?_)
                | ((with_reducible refine tag_box ?_); first | refine reg_box (cs := [_]) rfl (fun nb => ?_) | refine reg_box (cs := [_, _]) rfl (fun nb => ?_) | refine reg_box (cs := [_, _, _]) rfl (fun nb => ?_) | refine reg_box (cs := [_, _, _, _]) rfl (fun nb => ?_) | refine reg_box (cs := [_, _, _, _, _]) rfl (fun nb => ?_) | refine reg_box (cs := [_, _, _, _, _, _]) rfl (fun nb => ?_) | refine reg_box (cs := [_, _, _, _, _, _, _]) rfl (fun nb => ?_) | refine reg_box (cs := [_, _, _, _, _, _, _, _]) rfl (fun nb => ?_)))
          all_goals refine reg_nil ?_
          all_goals repeat (first | refine run_seq ?_ | refine run_block ?_ | refine run_skip ?_ | refine run_inBlock ?_)
          refine run_condF rfl ?_
          refine run_sl_cases 1 rfl (fun _ hz _ _ => absurd hz (by simp)) ?_
          intro lb e1 e2 e3
          subst e1
          refine run_share_sl [1] rfl (fun spare => ?_)
          have hr : ∀ o, o = l'.length → rd false 1 (intL (l' ++ [x]) ++ spare) o = some (.int .i64 x) := by
            intro o ho; subst ho; exact rd_append (intL_get _ _ _ (by simp)) (by intro h; cases h)
          refine run_slots [(2, .int .i64 i), (11, .slice (some ⟨lb, 0, none⟩) (l' ++ [x]).length cap)] ⟨rfl, rfl, trivial⟩ (fun junk => ?_)
          have hlen : ((l' ++ [x]).length : Int) = l'.length + 1 := by simp
          repeat' (first
            | refine run_seq ?_
            | refine run_region (by kernel_rfl) ?_
            | refine run_drawA PP_mixed (by kernel_rfl) (by kernel_rfl) ?_
            | refine run_skip ?_
            | refine run_block ?_
            | refine run_inBlock ?_
            | refine run_inLoop ?_
            | refine run_exit rfl ?_
            | (refine reg_cons rfl ?_; first
                | refine reg_load_sh 0 rfl rfl (hr _ (by omega)) ?_
                | ((with_reducible refine tag_guard ?_); first | refine reg_guard_in rfl ?_ | refine reg_guard_out rfl ?_ | refine reg_guard_none rfl ?_ | refine reg_guard rfl rfl (fun _ => ?_) (fun _ => ?_))
                | ((with_reducible refine tag_move ?_); refine reg_pure rfl ?_)
                | ((with_reducible refine tag_assign ?_); refine reg_pure rfl ?_)
                | ((with_reducible refine tag_load ?_); first | refine reg_load_sh 0 rfl rfl rfl ?_ | refine reg_load_sh 1 rfl rfl rfl ?_ | refine reg_load_sh 2 rfl rfl rfl ?_ | refine reg_load_sh 3 rfl rfl rfl ?_ | refine reg_load_sh 4 rfl rfl rfl ?_ | refine reg_load_sh 5 rfl rfl rfl ?_ | refine reg_load_pt 0 rfl rfl rfl ?_ | refine reg_load_pt 1 rfl rfl rfl ?_ | refine reg_load_pt 2 rfl rfl rfl ?_ | refine reg_load_pt 3 rfl rfl rfl ?_ | refine reg_load_pt 4 rfl rfl rfl ?_ | refine reg_load_pt 5 rfl rfl rfl ?_)
                | ((with_reducible refine tag_call ?_); first | refine reg_callE [] (digit_spec w0 hw i 1 (by omega) (by omega) _ rfl) rfl rfl rfl sub_nil rfl ?_ | refine reg_len_slice rfl ?_)
                | ((with_reducible refine tag_field ?_); refine reg_field rfl ?_)
                | ((with_reducible refine tag_extract ?_); refine reg_pure rfl ?_)
                | ((with_reducible refine tag_bin ?_); first | refine reg_add64 rfl rfl (by omega) ?_ | refine reg_sub64 rfl rfl (by omega) ?_ | refine reg_lss rfl rfl ?_ | refine reg_geq rfl rfl ?_)
                | ((with_reducible refine tag_un ?_); first | refine reg_not rfl ?_ | refine reg_notB rfl ?_)
                | ((with_reducible refine tag_pick ?_); first | refine reg_pickT rfl ?_ | refine reg_pickF rfl ?_ | refine reg_pick rfl rfl rfl ?_)
                | ((with_reducible refine tag_index ?_); first | refine reg_index_slice rfl rfl (by omega) ?_ | refine reg_index_array rfl rfl (by omega) ?_)
                | ((with_reducible refine tag_box ?_); first | refine reg_box (cs := [_]) rfl (fun nb => ?_) | refine reg_box (cs := [_, _]) rfl (fun nb => ?_) | refine reg_box (cs := [_, _, _]) rfl (fun nb => ?_) | refine reg_box (cs := [_, _, _, _]) rfl (fun nb => ?_) | refine reg_box (cs := [_, _, _, _, _]) rfl (fun nb => ?_) | refine reg_box (cs := [_, _, _, _, _, _]) rfl (fun nb => ?_) | refine reg_box (cs := [_, _, _, _, _, _, _]) rfl (fun nb => ?_) | refine reg_box (cs := [_, _, _, _, _, _, _, _]) rfl (fun nb => ?_)))
            | refine reg_nil ?_
            | refine run_condT rfl ?_
            | refine run_condF rfl ?_)
          rw [e, hlast]
          exact ret_tmp2 rfl ⟨rfl, rfl⟩
end Go.Proofs.YtilnknokgflkjaaDoor

