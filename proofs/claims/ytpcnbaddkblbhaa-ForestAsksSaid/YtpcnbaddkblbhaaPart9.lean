import Derived.Test.YtpcnbaddkblbhaaPart7
import Derived.Test.YtpcnbaddkblbhaaKit
import Derived.Test.YtpcnbaddkblbhaaPart8
import Derived.Test.YtpcnbaddkblbhaaPart4
/- Lemmas and walks for the claims of this seat (own work): Wr0 Wq0 Dn0 Dn1 Rg0. -/
/- Worlds: space.New, Fresh, Alike over maps that are shared. -/
namespace Sim
open Go Go.Vc
/-- A world's map: its keys differ. -/
def KnOk (kn : List (Int × Wd)) : Prop := ∀ (q : Nat) a w, kn[q]? = some (a, w) → lookW kn a = some w
def valW (kn : List (Int × Wd)) (a : Int) : Int := match lookW kn a with | some w => w.val | none => 0
def alikeB (ka kb : List (Int × Wd)) : Bool := decide (ka.length = kb.length) && ka.all fun p => decide (valW kb p.1 = p.2.val)
theorem valW_look (kn : List (Int × Wd)) (a : Int) (zv : Value) (hz : zv = wordV ⟨0, 0, 0⟩) : (Vc.look (knM kn) a).getD zv = wordV ((lookW kn a).getD ⟨0, 0, 0⟩) := by
  rw [look_knM, hz]
  cases lookW kn a <;> rfl
theorem valW_getD (kn : List (Int × Wd)) (a : Int) : ((lookW kn a).getD ⟨0, 0, 0⟩).val = valW kn a := by unfold valW; cases lookW kn a <;> rfl
end Sim
namespace Go.Proofs.Ytpcnbaddkblbhaa
open Go.Vc Sim
set_option maxHeartbeats 4000000
theorem new_sh (w0 : World) (kb : Nat) (kn : List (Int × Wd)) (hkn : ∀ (q : Nat) a w, kn[q]? = some (a, w) → lookW kn a = some w ∧ w.ref = 0) :
    Vc.Fn PP w0 [(kb, mapI (knM kn))] 29 [.map (some kb)] []
      (fun v Γ => ∃ p kn', v = spP p ∧ Γ = [SpaceA p ⟨kn', [], [], 0, false⟩] ∧ ∀ a, lookW kn' a = lookW kn a) := by
  refine fn_of_run en29 fn29 rfl rfl rfl ?_
  repeat (first | refine zck ?_ | refine zcl ?_ | refine zcm ?_ | refine zcn ?_)
  first | refine zcp (by kernel_rfl) ?_ | refine zcq PP_mixed (by kernel_rfl) (by kernel_rfl) ?_
  repeat' (refine zap rfl ?_; first | ((with_reducible refine zcv ?_); refine zan rfl ?_))
  all_goals refine zch ?_
  all_goals repeat (first | refine zck ?_ | refine zcl ?_ | refine zcm ?_ | refine zcn ?_)
  repeat (first | refine zck ?_ | refine zcl ?_ | refine zcm ?_ | refine zcn ?_)
  first | refine zcp (by kernel_rfl) ?_ | refine zcq PP_mixed (by kernel_rfl) (by kernel_rfl) ?_
  repeat' (refine zap rfl ?_; first | ((with_reducible refine zcv ?_); refine zan rfl ?_) | ((with_reducible refine zdg ?_); refine zaq (cs := [_, _, _, _, _]) rfl (fun nb => ?_)) | refine zcc (fun nb => ?_) | refine zcb rfl ?_)
  all_goals refine zch ?_
  all_goals repeat (first | refine zck ?_ | refine zcl ?_ | refine zcm ?_ | refine zcn ?_)
  rename_i m1 m2
  revert nb; intro p
  refine run_share_keep [2] rfl ?_
  repeat (first | refine zck ?_ | refine zcl ?_ | refine zcm ?_ | refine zcn ?_)
  first | refine zcp (by kernel_rfl) ?_ | refine zcq PP_mixed (by kernel_rfl) (by kernel_rfl) ?_
  repeat' (refine zap rfl ?_; first | refine reg_rangeK rfl (sh_know 1 rfl) (fun nb => ?_) | ((with_reducible refine zcu ?_); refine zan rfl ?_))
  all_goals refine zch ?_
  all_goals repeat (first | refine zck ?_ | refine zcl ?_ | refine zcm ?_ | refine zcn ?_)
  revert nb; intro it
  refine run_loop (S := List (Int × Wd) × List Nat) (fun _ => [(3, spP p), (11, .pointer (some ⟨it, 0, none⟩))])
    (fun st Γ => Γ = [pt m1 (mapI (knM st.1)), pt m2 (mapI []), pt it (iterI kb (knM kn).length st.2 (knM kn).length)] ∧ (∀ q ∈ st.2, ∀ a w, kn[q]? = some (a, w) → lookW st.1 a = some w) ∧ (∀ a w, lookW st.1 a = some w → lookW kn a = some w))
    (fun st => cnt kn.length st.2) ([], []) ⟨rfl, rfl, trivial⟩ ⟨rfl, by simp, by simp [lookW]⟩ ?_
  rintro ⟨kn', seen⟩ Γ junk ⟨rfl, h1, h2⟩
  dsimp only at h1 h2 ⊢
  repeat (first | refine zck ?_ | refine zcl ?_ | refine zcm ?_ | refine zcn ?_ | refine zco ?_)
  refine zcp (by kernel_rfl) ?_
  refine zap rfl ?_
  refine reg_next 2 0 rfl rfl (sh_know 1 rfl) rfl (fun _ => rfl) (fun hall => ?_) (fun q e hq hns => ?_)
  · repeat' (first | refine zck ?_ | (refine zap rfl ?_; first | ((with_reducible refine zcz ?_); refine zan rfl ?_)) | refine zch ?_ | refine zcj rfl ?_)
    refine cut_exit rfl rfl ?_
    repeat' (first | refine zck ?_ | refine zcp (by kernel_rfl) ?_ | (refine zap rfl ?_; first | ((with_reducible refine zcu ?_); refine zan rfl ?_) | ((with_reducible refine zcv ?_); refine zan rfl ?_)) | refine zch ?_)
    refine run_nilslice 104 2 ?_
    refine run_ret (leaves_nil (ends_close1 (A := SpaceA p ⟨kn', [], [], 0, false⟩) [4, 0, 0, 1] rfl (fun _ h => ⟨(m1, m2, none, 0), h⟩) (ends_one rfl rfl ⟨rfl, p, kn', rfl, rfl, fun a => ?_⟩)))
    cases hk : lookW kn a with
    | none =>
      cases hk' : lookW kn' a with
      | none => rfl
      | some w => have := h2 a w hk'; rw [hk] at this; cases this
    | some w =>
      obtain ⟨q, hq⟩ := lookW_mem kn a w hk
      have hql := (List.getElem?_eq_some_iff.1 hq).1
      exact h1 q (hall q (by rw [knM_length]; exact hql)) a w hq
  · rw [knM_get] at hq
    obtain ⟨⟨a, w⟩, hq2, rfl⟩ : ∃ aw, kn[q]? = some aw ∧ e = (aw.1, wordV aw.2) := by
      cases h : kn[q]? with
      | none => rw [h] at hq; cases hq
      | some aw => rw [h] at hq; exact ⟨aw, rfl, (Option.some.inj hq).symm⟩
    obtain ⟨hk1, hk2⟩ := hkn q a w hq2
    have hql := (List.getElem?_eq_some_iff.1 hq2).1
    have hq3 : (knM kn)[q]? = some (a, wordV w) := by rw [knM_get, hq2]; rfl
    repeat' (refine zap rfl ?_; first | ((with_reducible refine zcz ?_); refine zan rfl ?_))
    refine zch ?_
    repeat (first | refine zck ?_ | refine zcl ?_ | refine zcm ?_ | refine zcn ?_ | refine zco ?_)
    refine zci rfl ?_
    repeat (first | refine zck ?_ | refine zcl ?_ | refine zcm ?_ | refine zcn ?_ | refine zco ?_)
    repeat (first | refine zck ?_ | refine zcl ?_ | refine zcm ?_ | refine zcn ?_)
    first | refine zcp (by kernel_rfl) ?_ | refine zcq PP_mixed (by kernel_rfl) (by kernel_rfl) ?_
    repeat' (refine zap rfl ?_; first | refine reg_entry 2 rfl rfl (sh_know 1 rfl) hq3 ?_ | ((with_reducible refine zcv ?_); refine zan rfl ?_) | ((with_reducible refine zcz ?_); refine zan rfl ?_) | ((with_reducible refine zdd ?_); refine zae 3 rfl rfl rfl rfl rfl rfl rfl ?_) | ((with_reducible refine zdh ?_); refine zar (fun nb => ?_)))
    all_goals refine zch ?_
    all_goals repeat (first | refine zck ?_ | refine zcl ?_ | refine zcm ?_ | refine zcn ?_)
    refine run_share [3] rfl ?_
    repeat (first | refine zck ?_ | refine zcl ?_ | refine zcm ?_ | refine zcn ?_)
    first | refine zcp (by kernel_rfl) ?_ | refine zcq PP_mixed (by kernel_rfl) (by kernel_rfl) ?_
    repeat' (refine zap rfl ?_; first | ((with_reducible refine zcw ?_); refine zaa 0 rfl rfl rfl ?_) | ((with_reducible refine zcy ?_); refine zao rfl ?_) | ((with_reducible refine zda ?_); refine zbo rfl rfl ?_))
    all_goals refine zch ?_
    all_goals repeat (first | refine zck ?_ | refine zcl ?_ | refine zcm ?_ | refine zcn ?_)
    refine zci (bool_eq (decide_eq_true hk2)) ?_
    repeat' (first | refine zcq PP_mixed (by kernel_rfl) (by kernel_rfl) ?_ | refine zcn ?_ | (refine zap rfl ?_; first | refine reg_mapUpdate 0 rfl rfl rfl rfl rfl ?_ | ((with_reducible refine zcu ?_); refine zan rfl ?_) | ((with_reducible refine zcw ?_); first | refine zaa 0 rfl rfl rfl ?_ | refine zaa 1 rfl rfl rfl ?_) | ((with_reducible refine zcy ?_); refine zao rfl ?_) | ((with_reducible refine zde ?_); refine zan rfl ?_)) | refine zch ?_)
    refine cut_end ⟨rfl, (insW kn' a w, seen ++ [q]), ⟨rfl, rfl, trivial⟩, ⟨?_, ?_, ?_⟩, ?_⟩
    · show _ = [pt m1 (mapI (knM (insW kn' a w))), _, _]
      rw [← ins_knM]; rfl
    · intro q' hq' a' w' h
      rw [look_insW]
      rcases List.mem_append.1 hq' with hq' | hq'
      · have := h1 q' hq' a' w' h
        by_cases e : a = a'
        · subst e; rw [if_pos rfl]
          have := (hkn q' a w' h).1
          rw [hk1] at this; exact this
        · rw [if_neg e]; exact this
      · simp at hq'; subst hq'
        rw [hq2] at h; cases h; rw [if_pos rfl]
    · intro a' w' h
      rw [look_insW] at h
      by_cases e : a = a'
      · subst e; rw [if_pos rfl] at h; cases h; exact hk1
      · rw [if_neg e] at h; exact h2 a' w' h
    · have := (cnt_more q seen hns kn.length).2 hql
      dsimp only; omega
theorem wk_rep (i : Nat) : wk 0 (List.replicate (i + 1) 0) = wk 0 (List.replicate i 0) ++ [((i : Int), ⟨0, 0, 0⟩)] := by
  rw [List.replicate_succ', wk_snoc, List.length_replicate, Nat.zero_add]
theorem fresh_spec (w0 : World) (n : Nat) (hn : n ≤ 100000) :
    Vc.Fn PP w0 [] 33 [.int .i64 n] [] (fun v Γ => ∃ mb, v = .map (some mb) ∧ Γ = [pt mb (mapI (knM (wk 0 (List.replicate n 0))))]) := by
  refine fn_of_run en33 fn33 rfl rfl rfl ?_
  repeat (first | refine zck ?_ | refine zcl ?_ | refine zcm ?_ | refine zcn ?_)
  first | refine zcp (by kernel_rfl) ?_ | refine zcq PP_mixed (by kernel_rfl) (by kernel_rfl) ?_
  repeat' (refine zap rfl ?_; first | ((with_reducible refine zcv ?_); refine zan rfl ?_))
  all_goals refine zch ?_
  all_goals repeat (first | refine zck ?_ | refine zcl ?_ | refine zcm ?_ | refine zcn ?_)
  repeat (first | refine zck ?_ | refine zcl ?_ | refine zcm ?_ | refine zcn ?_)
  first | refine zcp (by kernel_rfl) ?_ | refine zcq PP_mixed (by kernel_rfl) (by kernel_rfl) ?_
  repeat' (refine zap rfl ?_; first | ((with_reducible refine zcv ?_); refine zan rfl ?_) | refine zcc (fun nb => ?_))
  all_goals refine zch ?_
  all_goals repeat (first | refine zck ?_ | refine zcl ?_ | refine zcm ?_ | refine zcn ?_)
  repeat (first | refine zck ?_ | refine zcl ?_ | refine zcm ?_ | refine zcn ?_)
  first | refine zcp (by kernel_rfl) ?_ | refine zcq PP_mixed (by kernel_rfl) (by kernel_rfl) ?_
  repeat' (refine zap rfl ?_; first | ((with_reducible refine zcu ?_); refine zan rfl ?_))
  all_goals refine zch ?_
  all_goals repeat (first | refine zck ?_ | refine zcl ?_ | refine zcm ?_ | refine zcn ?_)
  refine run_loop (S := Nat) (fun i => [(3, .map (some nb)), (6, .int .i64 (n : Int)), (7, .int .i64 (i : Int))])
    (fun i Γ => Γ = [pt nb (mapI (knM (wk 0 (List.replicate i 0))))] ∧ i ≤ n) (fun i => n - i) 0 ⟨rfl, rfl, rfl, trivial⟩ ⟨rfl, Nat.zero_le _⟩ ?_
  rintro i Γ junk ⟨rfl, hi⟩
  by_cases hlt : i < n
  · have hnone : lookW (wk 0 (List.replicate i 0)) (i : Int) = none := by rw [lookW_wk, if_neg]; simp
    have hins : ins (knM (wk 0 (List.replicate i 0))) (i : Int) (wordV ⟨0, 0, 0⟩) = knM (wk 0 (List.replicate (i + 1) 0)) := by
      rw [ins_knM, insW_none _ _ _ hnone, wk_rep]
    repeat' (first | refine zck ?_ | refine zcp (by kernel_rfl) ?_ | refine zcm ?_ | refine zcl ?_ | refine zcn ?_ | (refine zap rfl ?_; first | refine zcb rfl ?_ | refine reg_mapUpdate 0 rfl rfl rfl rfl rfl ?_ | ((with_reducible refine zcu ?_); refine zan rfl ?_) | ((with_reducible refine zcv ?_); refine zan rfl ?_) | ((with_reducible refine zda ?_); first | refine zbg rfl rfl (by omega) ?_ | refine zau rfl rfl (by omega) ?_)) | refine zch ?_ | refine zci rfl ?_)
    refine cut_end ⟨rfl, i + 1, ⟨rfl, rfl, int_eq (by omega), trivial⟩, ⟨?_, hlt⟩, by omega⟩
    rw [← hins]; rfl
  · repeat' (first | refine zck ?_ | refine zcp (by kernel_rfl) ?_ | (refine zap rfl ?_; first | ((with_reducible refine zda ?_); refine zbh rfl rfl (by omega) ?_)) | refine zch ?_ | refine zcj rfl ?_)
    refine cut_exit rfl rfl ?_
    repeat' (first | refine zck ?_ | refine zcp (by kernel_rfl) ?_ | (refine zap rfl ?_; first | ((with_reducible refine zcu ?_); refine zan rfl ?_) | ((with_reducible refine zcv ?_); refine zan rfl ?_)) | refine zch ?_)
    have e : i = n := by omega
    subst e
    exact ret_tmp1 rfl ⟨_, rfl, rfl⟩
theorem alike_spec (w0 : World) (ab bb : Nat) (ka kb : List (Int × Wd)) :
    FnE PP w0 [(ab, mapI (knM ka)), (bb, mapI (knM kb))] 21 [.map (some ab), .map (some bb)] [] (.bool (alikeB ka kb)) [] := by
  refine fn_of_run en21 fn21 rfl rfl rfl ?_
  by_cases hl : ka.length = kb.length
  case neg =>
    have e : alikeB ka kb = false := by unfold alikeB; rw [decide_eq_false hl]; rfl
    have hl2 : (((knM ka).length : Nat) : Int) ≠ ((knM kb).length : Nat) := by rw [knM_length, knM_length]; omega
    repeat' (first | refine zck ?_ | refine zcp (by kernel_rfl) ?_ | (refine zap rfl ?_; first | refine reg_len_mapS 0 rfl rfl ?_ | refine reg_len_mapS 1 rfl rfl ?_ | ((with_reducible refine zcu ?_); refine zan rfl ?_) | ((with_reducible refine zcv ?_); refine zan rfl ?_) | ((with_reducible refine zda ?_); refine zbe rfl rfl (by omega) ?_)) | refine zch ?_ | refine zci rfl ?_)
    rw [e]
    exact ret_tmp1 rfl ⟨rfl, rfl⟩
  have hl2 : (((knM ka).length : Nat) : Int) = ((knM kb).length : Nat) := by rw [knM_length, knM_length]; omega
  repeat (first | refine zck ?_ | refine zcl ?_ | refine zcm ?_ | refine zcn ?_)
  first | refine zcp (by kernel_rfl) ?_ | refine zcq PP_mixed (by kernel_rfl) (by kernel_rfl) ?_
  repeat' (refine zap rfl ?_; first | ((with_reducible refine zcv ?_); refine zan rfl ?_))
  all_goals refine zch ?_
  all_goals repeat (first | refine zck ?_ | refine zcl ?_ | refine zcm ?_ | refine zcn ?_)
  repeat (first | refine zck ?_ | refine zcl ?_ | refine zcm ?_ | refine zcn ?_)
  first | refine zcp (by kernel_rfl) ?_ | refine zcq PP_mixed (by kernel_rfl) (by kernel_rfl) ?_
  repeat' (refine zap rfl ?_; first | refine reg_len_mapS 0 rfl rfl ?_ | refine reg_len_mapS 1 rfl rfl ?_ | ((with_reducible refine zcu ?_); refine zan rfl ?_) | ((with_reducible refine zda ?_); refine zbf rfl rfl (by omega) ?_))
  all_goals refine zch ?_
  all_goals repeat (first | refine zck ?_ | refine zcl ?_ | refine zcm ?_ | refine zcn ?_)
  refine zcj rfl ?_
  repeat (first | refine zck ?_ | refine zcl ?_ | refine zcm ?_ | refine zcn ?_)
  first | refine zcp (by kernel_rfl) ?_ | refine zcq PP_mixed (by kernel_rfl) (by kernel_rfl) ?_
  repeat' (refine zap rfl ?_; first | refine reg_rangeK rfl (sh_know 0 rfl) (fun nb => ?_) | ((with_reducible refine zcu ?_); refine zan rfl ?_))
  all_goals refine zch ?_
  all_goals repeat (first | refine zck ?_ | refine zcl ?_ | refine zcm ?_ | refine zcn ?_)
  revert nb; intro it
  refine run_loop (S := List Nat) (fun _ => [(1, .map (some bb)), (13, .pointer (some ⟨it, 0, none⟩))])
    (fun st Γ => Γ = [pt it (iterI ab (knM ka).length st (knM ka).length)] ∧ (∀ q ∈ st, ∀ p, ka[q]? = some p → valW kb p.1 = p.2.val))
    (fun st => cnt ka.length st) [] ⟨rfl, rfl, trivial⟩ ⟨rfl, by simp⟩ ?_
  rintro seen Γ junk ⟨rfl, h1⟩
  repeat (first | refine zck ?_ | refine zcl ?_ | refine zcm ?_ | refine zcn ?_ | refine zco ?_)
  refine zcp (by kernel_rfl) ?_
  refine zap rfl ?_
  refine reg_next 0 0 rfl rfl (sh_know 0 rfl) rfl (fun _ => rfl) (fun hall => ?_) (fun q e hq hns => ?_)
  · repeat' (first | refine zck ?_ | (refine zap rfl ?_; first | ((with_reducible refine zcz ?_); refine zan rfl ?_)) | refine zch ?_ | refine zcj rfl ?_)
    refine cut_exit rfl rfl ?_
    repeat' (first | refine zck ?_ | refine zcp (by kernel_rfl) ?_ | (refine zap rfl ?_; first | ((with_reducible refine zcv ?_); refine zan rfl ?_)) | refine zch ?_)
    refine run_take [] rfl ?_
    have e : alikeB ka kb = true := by
      unfold alikeB
      rw [decide_eq_true hl, Bool.true_and, List.all_eq_true]
      intro p hp
      obtain ⟨q, hq⟩ := List.mem_iff_getElem?.1 hp
      exact decide_eq_true (h1 q (hall q (by rw [knM_length]; exact (List.getElem?_eq_some_iff.1 hq).1)) p hq)
    rw [e]
    exact ret_tmp1 rfl ⟨rfl, rfl⟩
  · rw [knM_get] at hq
    obtain ⟨⟨a, w⟩, hq2, rfl⟩ : ∃ aw, ka[q]? = some aw ∧ e = (aw.1, wordV aw.2) := by
      cases h : ka[q]? with
      | none => rw [h] at hq; cases hq
      | some aw => rw [h] at hq; exact ⟨aw, rfl, (Option.some.inj hq).symm⟩
    have hql := (List.getElem?_eq_some_iff.1 hq2).1
    have hq3 : (knM ka)[q]? = some (a, wordV w) := by rw [knM_get, hq2]; rfl
    repeat' (refine zap rfl ?_; first | ((with_reducible refine zcz ?_); refine zan rfl ?_))
    refine zch ?_
    repeat (first | refine zck ?_ | refine zcl ?_ | refine zcm ?_ | refine zcn ?_ | refine zco ?_)
    refine zci rfl ?_
    repeat (first | refine zck ?_ | refine zcl ?_ | refine zcm ?_ | refine zcn ?_ | refine zco ?_)
    repeat (first | refine zck ?_ | refine zcl ?_ | refine zcm ?_ | refine zcn ?_)
    first | refine zcp (by kernel_rfl) ?_ | refine zcq PP_mixed (by kernel_rfl) (by kernel_rfl) ?_
    repeat' (refine zap rfl ?_; first | refine reg_entry 0 rfl rfl (sh_know 0 rfl) hq3 ?_ | ((with_reducible refine zcv ?_); refine zan rfl ?_) | ((with_reducible refine zcz ?_); refine zan rfl ?_) | ((with_reducible refine zdd ?_); refine zae 1 rfl rfl rfl rfl rfl rfl rfl ?_) | ((with_reducible refine zdh ?_); refine zar (fun nb => ?_)))
    all_goals refine zch ?_
    all_goals repeat (first | refine zck ?_ | refine zcl ?_ | refine zcm ?_ | refine zcn ?_)
    refine run_share [1] rfl ?_
    repeat (first | refine zck ?_ | refine zcl ?_ | refine zcm ?_ | refine zcn ?_)
    first | refine zcp (by kernel_rfl) ?_ | refine zcq PP_mixed (by kernel_rfl) (by kernel_rfl) ?_
    repeat' (refine zap rfl ?_; first | refine reg_lookup_sh 2 rfl rfl rfl (valW_look kb a _ rfl) ?_ | refine reg_fieldV rfl rfl ?_ | ((with_reducible refine zcu ?_); refine zan rfl ?_) | ((with_reducible refine zcw ?_); refine zaa 0 rfl rfl rfl ?_) | ((with_reducible refine zcy ?_); refine zao rfl ?_) | ((with_reducible refine zda ?_); refine zbp rfl rfl ?_))
    all_goals refine zch ?_
    all_goals repeat (first | refine zck ?_ | refine zcl ?_ | refine zcm ?_ | refine zcn ?_)
    refine run_cond rfl (fun hE => ?_) (fun hE => ?_)
    · have hE : valW kb a ≠ w.val := by rw [← valW_getD]; exact hE
      repeat' (first | refine zck ?_ | refine zcp (by kernel_rfl) ?_ | (refine zap rfl ?_; first | ((with_reducible refine zcv ?_); refine zan rfl ?_)) | refine zch ?_)
      refine run_take [] rfl ?_
      have e : alikeB ka kb = false := by
        unfold alikeB
        rw [decide_eq_true hl, Bool.true_and, List.all_eq_false]
        exact ⟨(a, w), List.mem_of_getElem? hq2, by simpa using hE⟩
      rw [e]
      exact qret1 (fun _ _ h => h) rfl ⟨rfl, rfl⟩
    · have hE : valW kb a = w.val := by rw [← valW_getD]; exact Classical.not_not.1 hE
      repeat' (first | refine zcm ?_ | refine zcn ?_ | (refine zap rfl ?_; first | ((with_reducible refine zcu ?_); refine zan rfl ?_)) | refine zch ?_)
      refine cut_end ⟨rfl, seen ++ [q], ⟨rfl, rfl, trivial⟩, ⟨rfl, ?_⟩, ?_⟩
      · intro q' hq' p hp
        rcases List.mem_append.1 hq' with hq' | hq'
        · exact h1 q' hq' p hp
        · simp at hq'; subst hq'
          rw [hq2] at hp; cases hp; exact hE
      · have := (cnt_more q seen hns ka.length).2 hql
        omega
end Go.Proofs.Ytpcnbaddkblbhaa

/- Words compared. -/
namespace Go.Proofs.Ytpcnbaddkblbhaa
open Go.Vc Sim
set_option maxHeartbeats 4000000
theorem word_underlying : PP.underlying 48 = some (.struct #[⟨"Val", 2, 0, false, "", "", 0⟩, ⟨"Ver", 46, 1, false, "", "", 8⟩, ⟨"Ref", 46, 2, false, "", "", 12⟩]) := by
  rw [PP_def, Try.underlying48]
theorem word_stood : PP.stoodInHeld 48 = false := by rw [PP_def]; kernel_rfl
theorem word_guard : PP.eqGuardType PP.depth 48 = false := by rw [PP_def]; kernel_rfl
theorem int_eqIn {t : TypeId} {k : IntKind} (h : PP.underlying t = some (.int k)) (d : Nat) (m : Int) (w : World) : (Op.equalIn (d + 1) t (.int k m) (.int k m)).run PP w = .ok true w := by
  simp [Op.equalIn, run_underlying h]
theorem run_equal2 {P : Program} {t : TypeId} {u v : Value} {q : Bool} {w : World} (h : ∀ d, (Op.equalIn (d + 2) t u v).run P w = .ok q w) : (Op.equal t u v).run P w = .ok q w := h 9998
theorem word_equal (a b c : Int) (w : World) : (Op.equal 48 (.agg #[.int .i64 a, .int .u32 b, .int .u32 c]) (.agg #[.int .i64 a, .int .u32 b, .int .u32 c])).run PP w = .ok true w := by
  have h2 : PP.underlying 2 = some (.int .i64) := by rw [PP_def, Try.underlying2]
  have h46 : PP.underlying 46 = some (.int .u32) := by rw [PP_def, Try.underlying46]
  have e2 := fun d w => int_eqIn h2 d a w
  have e46 := fun d m w => int_eqIn h46 d m w
  have a2 : ∀ w, (isAgg 2).run PP w = .ok false w := fun w => TShape.agg_run w
  have a46 : ∀ w, (isAgg 46).run PP w = .ok false w := fun w => TShape.agg_run w
  have p2 : ∀ w, (part 2 #[Value.int .i64 a, .int .u32 b, .int .u32 c] 0).run PP w = .ok (.int .i64 a) w := fun w => by simp [part, a2]
  have p3 : ∀ w, (part 46 #[Value.int .i64 a, .int .u32 b, .int .u32 c] 1).run PP w = .ok (.int .u32 b) w := fun w => by simp [part, a46]
  have p4 : ∀ w, (part 46 #[Value.int .i64 a, .int .u32 b, .int .u32 c] 2).run PP w = .ok (.int .u32 c) w := fun w => by simp [part, a46]
  refine run_equal2 (fun d => ?_)
  rw [Op.equalIn]
  simp only [Sem.run_bind, run_underlying word_underlying, Result.andThen_ok]
  have hs : (program).run PP w = .ok PP w := rfl
  simp only [hs, Result.andThen_ok, word_stood, Bool.false_eq_true, if_false]
  simp [← Array.forIn_toList, p2, p3, p4, e2, e46]
section
variable {w0 : World} {n : Nat} {sh : Shared} {Q : Exit → Env → List Deferred → List Asn → Prop} {k : List Item} {ρ : Env} {df : List Deferred} {Γ : List Asn}
variable {ops : Array Oper} {l : List (Fl × Nat × Oper)} {bf : Fl} {i d : Nat} {ty : TypeId} {pos : String} {aft : Array Edge} {x y : Operand} {yt : TypeId}
theorem reg_ne_word {a b c a' b' c' : Int} (hx : ev ρ x = .agg #[.int .i64 a, .int .u32 b, .int .u32 c]) (hy : ev ρ y = .agg #[.int .i64 a', .int .u32 b', .int .u32 c']) (he : a = a' ∧ b = b' ∧ c = c')
    (h : Reg PP w0 n sh Q ops l k (ρ.set d (.bool false)) df Γ) : Reg PP w0 n sh Q ops ((bf, i, ⟨some d, .binOp .neq 48 x y yt, ty, pos, aft, none⟩) :: l) k ρ df Γ :=
  reg_quiet rfl (fun hF _ => quiet_of_run fun w => by
    obtain ⟨rfl, rfl, rfl⟩ := he
    have hs : (program).run PP w = .ok PP w := rfl
    have hg : (eqGuard .neq 48 x y (.agg #[.int .i64 a, .int .u32 b, .int .u32 c]) (.agg #[.int .i64 a, .int .u32 b, .int .u32 c])).run PP w = .ok () w := by
      simp [eqGuard, hs, word_guard]
    have hb : (binOp .neq 48 (.agg #[.int .i64 a, .int .u32 b, .int .u32 c]) (.agg #[.int .i64 a, .int .u32 b, .int .u32 c])).run PP w = .ok (.bool false) w := by
      show (do let r ← Op.equal _ _ _; pure (Value.bool (!r)) : Sem Value).run PP w = _
      simp [word_equal]
    simp only [execOp, hx, hy, Sem.run_bind, hg, hb, Result.andThen_ok, Sem.run_pure]) h
end
end Go.Proofs.Ytpcnbaddkblbhaa

/- World.Done: the plain part. -/
namespace Sim
open Go Go.Vc
/-- A world: its keys differ and are locations, its words are plain, their versions at most `T`. -/
structure WOk (T : Int) (kn : List (Int × Wd)) : Prop where
  nd : (kn.map (·.1)).Nodup
  wd : ∀ a w, lookW kn a = some w → w.ref = 0 ∧ 0 ≤ w.ver ∧ w.ver ≤ T ∧ 0 ≤ a ∧ a < 4096
theorem keys_look : ∀ (kn : List (Int × Wd)), (kn.map (·.1)).Nodup → ∀ (q : Nat) a w, kn[q]? = some (a, w) → lookW kn a = some w
  | [], _, q, a, w, h => by simp at h
  | (b, u) :: r, hn, 0, a, w, h => by simp at h; obtain ⟨rfl, rfl⟩ := h; simp [lookW]
  | (b, u) :: r, hn, q + 1, a, w, h => by
    rw [List.map_cons, List.nodup_cons] at hn
    have h : r[q]? = some (a, w) := by simpa using h
    have ih := keys_look r hn.2 q a w h
    have hne : b ≠ a := fun e => hn.1 (e ▸ List.mem_map.2 ⟨(a, w), List.mem_of_getElem? h, rfl⟩)
    simp [lookW, hne, ih]
theorem look_none : ∀ (kn : List (Int × Wd)) (a : Int), lookW kn a = none ↔ a ∉ kn.map (·.1)
  | [], a => by simp [lookW]
  | (b, u) :: r, a => by
    simp only [lookW, List.map_cons, List.mem_cons, not_or]
    by_cases h : b = a
    · subst h; simp
    · rw [if_neg h, look_none r a]
      exact ⟨fun h2 => ⟨fun e => h e.symm, h2⟩, fun h2 => h2.2⟩
theorem insW_keys : ∀ (kn : List (Int × Wd)) (a : Int) (w : Wd), (kn.map (·.1)).Nodup → ((insW kn a w).map (·.1)).Nodup
  | [], a, w, _ => by simp [insW]
  | (b, u) :: r, a, w, h => by
    rw [List.map_cons, List.nodup_cons] at h
    simp only [insW]
    by_cases e : b = a
    · rw [if_pos e, List.map_cons, List.nodup_cons]; exact h
    · rw [if_neg e, List.map_cons, List.nodup_cons]
      refine ⟨fun hm => ?_, insW_keys r a w h.2⟩
      by_cases hb : lookW r b = none
      · have h2 := look_insW r a b w
        rw [if_neg (fun e2 => e e2.symm), hb] at h2
        exact (look_none _ _).1 h2 hm
      · exact hb ((look_none _ _).2 h.1)
/-- The words after a transaction. -/
def nextW (kn : List (Int × Wd)) (s : Sp) (a : Int) : Option Wd := (lookW kn a).map fun w => if (s.value a).2 = true then ⟨(s.value a).1, w.ver + 1, 0⟩ else w
theorem lastV_some : ∀ (l : List (Int × Int)) (a : Int), lastV l a ≠ none → ∃ p ∈ l, p.1 = a
  | [], a, h => absurd rfl h
  | (b, v) :: l, a, h => by
    simp only [lastV] at h
    by_cases h2 : lastV l a = none
    · rw [h2] at h
      by_cases e : b = a
      · exact ⟨(b, v), by simp, e⟩
      · simp [e] at h
    · obtain ⟨p, hp, h3⟩ := lastV_some l a h2
      exact ⟨p, by simp [hp], h3⟩
theorem value_put {s : Sp} {a : Int} (h : (s.value a).2 = true) : ∃ p ∈ s.puts, p.1 = a := by
  refine lastV_some s.puts a fun e => ?_
  simp only [Sp.value, e] at h
  cases h
theorem value_wr {s : Sp} {p : Int × Int} (h : p ∈ s.puts) : (s.value p.1).2 = true := by
  cases hl : lastV s.puts p.1 with
  | some v => simp only [Sp.value, hl]
  | none =>
    exfalso
    have key : ∀ l : List (Int × Int), p ∈ l → lastV l p.1 ≠ none := by
      intro l
      induction l with
      | nil => intro h; cases h
      | cons q l ih =>
        intro h
        obtain ⟨b, v⟩ := q
        simp only [lastV]
        cases h2 : lastV l p.1 with
        | some u => simp
        | none =>
          rcases List.mem_cons.1 h with h3 | h3
          · subst h3; simp
          · exact absurd h2 (ih h3)
    exact key _ h hl
theorem value_not {s : Sp} {a : Int} (h : (s.value a).2 = false) : (s.value a).1 = match lookW s.kn a with | some w => w.val | none => 0 := by
  simp only [Sp.value] at h ⊢
  cases hl : lastV s.puts a with
  | some v => rw [hl] at h; cases h
  | none => rfl
theorem nextW_ok {T : Int} {kn : List (Int × Wd)} {s : Sp} {kn2 : List (Int × Wd)} (h : WOk T kn) (hk : (kn2.map (·.1)).Nodup) (h2 : ∀ a, lookW kn2 a = nextW kn s a) : WOk (T + 1) kn2 := by
  refine ⟨hk, fun a w hw => ?_⟩
  rw [h2, nextW] at hw
  cases h3 : lookW kn a with
  | none => rw [h3] at hw; cases hw
  | some u =>
    rw [h3] at hw
    obtain ⟨g1, g2, g3, g4, g5⟩ := h.wd a u h3
    have := (Option.some.inj hw).symm
    subst this
    split
    · exact ⟨rfl, by dsimp only; omega, by dsimp only; omega, g4, g5⟩
    · exact ⟨g1, g2, Int.le_trans g3 (by omega), g4, g5⟩
/-- The words after the first entries. -/
def partW (kn : List (Int × Wd)) (s : Sp) (l : List Int) (a : Int) : Option Wd := if a ∈ l then nextW kn s a else lookW kn a
theorem partW_nil (kn : List (Int × Wd)) (s : Sp) (a : Int) : partW kn s [] a = lookW kn a := by simp [partW]
theorem partW_snoc (kn : List (Int × Wd)) (s : Sp) (l : List Int) (x a : Int) : partW kn s (l ++ [x]) a = if x = a then nextW kn s a else partW kn s l a := by
  unfold partW
  by_cases h : x = a
  · subst h; simp
  · have : a ∈ l ++ [x] ↔ a ∈ l := by simp [Ne.symm h]
    simp [h, this]
theorem partW_all {kn : List (Int × Wd)} {s : Sp} {l : List Int} (h : ∀ p ∈ s.puts, p.1 ∈ l) (a : Int) : partW kn s l a = nextW kn s a := by
  unfold partW
  by_cases hm : a ∈ l
  · rw [if_pos hm]
  · rw [if_neg hm]
    have : (s.value a).2 = false := by
      cases hv : (s.value a).2 with
      | false => rfl
      | true =>
        obtain ⟨p, hp, e⟩ := value_put hv
        exact absurd (e ▸ h p hp) hm
    unfold nextW
    rw [this]
    cases lookW kn a <;> rfl
end Sim
namespace Go.Proofs.Ytpcnbaddkblbhaa
open Go.Vc Sim
theorem idx_none : ∀ (l : List En) (x k : Int), (∀ e ∈ l, e.loc ≠ x) → idxI x l k = -1
  | [], x, k, _ => rfl
  | e :: l, x, k, h => by
    simp only [idxI]
    rw [if_neg (h e (by simp))]
    exact idx_none l x (k + 1) (fun e he => h e (by simp [he]))
theorem chk_ok (es : List En) (h1 : ∀ e ∈ es, wrongI e = 0) (h2 : (es.map (·.loc)).Nodup) : ∀ (l : List En) (i : Nat), es.drop i = l → chkI es l i = 0
  | [], _, _ => rfl
  | e :: l, i, h => by
    have hi : i < es.length := by
      by_cases hi : i < es.length
      · exact hi
      · rw [List.drop_of_length_le (by omega)] at h; cases h
    have he : es[i]? = some e := by
      have := List.drop_eq_getElem_cons hi
      rw [h] at this
      rw [List.getElem?_eq_getElem hi]
      exact congrArg some (List.cons.inj this).1.symm
    simp only [chkI]
    rw [if_neg (fun hw => hw (h1 e (List.mem_of_getElem? he)))]
    have hno : idxI e.loc (es.take i) 0 = -1 := by
      refine idx_none _ _ _ fun e' he' hloc => ?_
      obtain ⟨j, hj⟩ := List.mem_iff_getElem?.1 he'
      have hji : j < i := by
        have := (List.getElem?_eq_some_iff.1 hj).1
        simp at this; omega
      rw [List.getElem?_take_of_lt hji] at hj
      have hm1 : (es.map (·.loc))[j]? = some e.loc := by simp [hj, hloc]
      have hm2 : (es.map (·.loc))[i]? = some e.loc := by simp [he]
      have := (List.getElem?_inj (by simp; omega) h2).1 (hm1.trans hm2.symm)
      omega
    rw [hno, if_neg (by decide)]
    refine chk_ok es h1 h2 l (i + 1) ?_
    rw [List.drop_eq_getElem_cons hi] at h
    exact (List.cons.inj h).2
theorem check_ok {T : Int} {kn : List (Int × Wd)} {s : Sp} (hT : T ≤ 1000000) (hw : WOk T kn) (hs : Wf s) (hk : ∀ a, lookW s.kn a = lookW kn a) (hne : (esOf s).length ≠ 0) : checkI (esOf s) = 0 ∨ checkI (esOf s) = 15 := by
  unfold checkI
  rw [if_neg hne]
  by_cases h : 32 < (esOf s).length
  · rw [if_pos h]; exact .inr rfl
  · rw [if_neg h]
    left
    have hmem : ∀ e ∈ esOf s, ∃ x ∈ s.rd, e = entE s x := fun e he => by
      unfold esOf at he
      obtain ⟨x, hx, rfl⟩ := List.mem_map.1 he
      exact ⟨x, List.mem_mergeSort.1 hx, rfl⟩
    refine chk_ok _ (fun e he => ?_) ?_ _ 0 rfl
    · obtain ⟨x, hx, rfl⟩ := hmem e he
      have h2 := hs.rk x hx
      obtain ⟨w, hlw⟩ : ∃ w, lookW s.kn x = some w := by
        cases h3 : lookW s.kn x with
        | none => exact absurd h3 h2
        | some w => exact ⟨w, rfl⟩
      obtain ⟨g1, g2, g3, g4, g5⟩ := hw.wd x w (by rw [← hk]; exact hlw)
      have ho : oldW s x = w := by unfold oldW; rw [hlw]
      unfold wrongI entE
      dsimp only
      rw [ho]
      rw [if_neg (by omega), if_neg (by rintro ⟨_, h4⟩; omega)]
      rw [if_neg]
      rintro ⟨h4, h5⟩
      have := value_not h4
      rw [hlw] at this
      exact h5 this
    · have : (esOf s).map (·.loc) = s.rd.mergeSort leI := by
        unfold esOf
        rw [List.map_map]
        exact List.map_id _
      rw [this]
      exact (List.mergeSort_perm s.rd leI).nodup_iff.2 hs.nd
theorem entries_cases {T : Int} {kn : List (Int × Wd)} {s : Sp} (hT : T ≤ 1000000) (hw : WOk T kn) (hs : Wf s) (hl : s.ended = false) (hk : ∀ a, lookW s.kn a = lookW kn a) :
    (Sp.entries s = (esOf s, 0)) ∨ (Sp.entries s = ([], 15)) := by
  unfold Sp.entries
  rw [if_neg (by rw [hl]; decide)]
  by_cases h0 : (esOf s).length = 0
  · rw [if_pos h0]
    left
    rw [List.length_eq_zero_iff.1 h0]
  · rw [if_neg h0]
    rcases check_ok hT hw hs hk h0 with h | h
    · rw [if_neg (fun h2 => h2 h)]; exact .inl rfl
    · rw [if_pos (by rw [h]; decide), h]; exact .inr rfl
theorem esOf_loc (s : Sp) (i : Nat) : ((esOf s).take i).map (·.loc) = (s.rd.mergeSort leI).take i := by
  unfold esOf
  rw [← List.map_take, List.map_map]
  exact List.map_id _
end Go.Proofs.Ytpcnbaddkblbhaa

/- World.Done. -/
namespace Sim
open Go Go.Vc
theorem nodup_bd : ∀ (n : Nat) (l : List Int), l.Nodup → (∀ x ∈ l, 0 ≤ x ∧ x < n) → l.length ≤ n
  | 0, l, _, h => by
    cases l with
    | nil => exact Nat.le_refl _
    | cons a l => have := h a (by simp); omega
  | n + 1, l, hn, h => by
    by_cases hm : (n : Int) ∈ l
    · have h1 := nodup_bd n (l.erase n) (hn.erase _) (fun x hx => by
        have h2 := h x (List.mem_of_mem_erase hx)
        have h3 : x ≠ n := fun e => by subst e; exact (List.Nodup.not_mem_erase hn) hx
        omega)
      have h2 := List.length_erase_of_mem hm
      omega
    · have := nodup_bd n l hn (fun x hx => by
        have h2 := h x hx
        have h3 : x ≠ n := fun e => hm (e ▸ hx)
        omega)
      omega
end Sim
namespace Go.Proofs.Ytpcnbaddkblbhaa
open Go.Vc Sim
set_option maxHeartbeats 8000000
theorem wrap_u32 {m : Int} (h0 : 0 ≤ m) (h1 : m ≤ 4294967295) : IntKind.u32.wrap m = m := by
  simp only [IntKind.wrap, IntKind.bits, IntKind.signed]
  simp
  omega
theorem get_live {s : Sp} {x : Int} {w : Wd} (hl : s.ended = false) (hk : lookW s.kn x = some w) : s.get x = ((s.value x).1, { s with rd := insI s.rd x }) := by
  have : s.reads x = (true, { s with rd := insI s.rd x }) := by simp [Sp.reads, hl, hk]
  simp only [Sp.get, this, if_true]
  rfl
/-- What a function over a space leaves. -/
structure Left (s s' : Sp) : Prop where
  live : s'.ended = false
  wf : Wf s'
  kn : s'.kn = s.kn
  few : s'.puts.length < 60000
theorem done_spec {σ : Type} (w0 : World) (shc : Shared) (wb : Nat) (kn : List (Int × Wd)) (T : Int) (hT : T ≤ 1000000) (hw : WOk T kn) (f : FuncId) (cap : Array Value) (A : Asn) (A' : σ → Asn) (ψ : σ → Sp → Prop)
    (hdo : ∀ p s, s.puts = [] → s.rd = [] → s.ended = false → (∀ a, lookW s.kn a = lookW kn a) →
      Vc.Fn PP w0 shc f (spP p :: cap.toList) [SpaceA p s, A] (fun v Γ => ∃ st s', v = .tuple #[] ∧ Γ = [SpaceA p s', A' st] ∧ Left s s' ∧ ψ st s')) :
    Vc.Fn PP w0 ((wb, mapI (knM kn)) :: shc) 13 [.map (some wb), .func (.func f) #[] cap] [A]
      (fun v Γ => ∃ st s' nb a len c kn2, v = .tuple #[.map (some nb), .slice a len c, .bool true] ∧ Γ = [pt nb (mapI (knM kn2)), A' st] ∧ ψ st s' ∧ WOk (T + 1) kn2 ∧ ∀ a, lookW kn2 a = nextW kn s' a) := by
  refine fn_of_run en13 fn13 rfl rfl rfl ?_
  repeat (first | refine zck ?_ | refine zcl ?_ | refine zcm ?_ | refine zcn ?_)
  first | refine zcp (by kernel_rfl) ?_ | refine zcr [(.quiet, 0), (.quiet, 1), (.quiet, 2), (.quiet, 3), (.loud, 4), (.quiet, 5), (.quiet, 6), (.loud, 7), (.quiet, 8), (.quiet, 9), (.quiet, 10), (.loud, 11)] PP_mixed (by kernel_rfl) (by kernel_rfl) ?_ | refine zcq PP_mixed (by kernel_rfl) (by kernel_rfl) ?_
  repeat' (refine zap rfl ?_; first | ((with_reducible refine zcv ?_); refine zan rfl ?_))
  all_goals refine zch ?_
  all_goals repeat (first | refine zck ?_ | refine zcl ?_ | refine zcm ?_ | refine zcn ?_)
  have hN := new_sh w0 wb kn (fun q a w h => ⟨keys_look kn hw.nd q a w h, (hw.wd a w (keys_look kn hw.nd q a w h)).1⟩)
  repeat (first | refine zck ?_ | refine zcl ?_ | refine zcm ?_ | refine zcn ?_)
  first | refine zcp (by kernel_rfl) ?_ | refine zcr [(.quiet, 0), (.quiet, 1), (.quiet, 2), (.quiet, 3), (.loud, 4), (.quiet, 5), (.quiet, 6), (.loud, 7), (.quiet, 8), (.quiet, 9), (.quiet, 10), (.loud, 11)] PP_mixed (by kernel_rfl) (by kernel_rfl) ?_ | refine zcq PP_mixed (by kernel_rfl) (by kernel_rfl) ?_
  repeat' (refine zap rfl ?_; first | (refine zai [] hN rfl rfl rfl (fun q hq => by simp only [List.mem_singleton] at hq; subst hq; exact .head _) ?_; rintro v Γ' ⟨p, kn', rfl, rfl, hkn'⟩) | ((with_reducible refine zcu ?_); refine zan rfl ?_) | ((with_reducible refine zcv ?_); refine zan rfl ?_))
  all_goals refine zch ?_
  all_goals repeat (first | refine zck ?_ | refine zcl ?_ | refine zcm ?_ | refine zcn ?_)
  repeat (first | refine zck ?_ | refine zcl ?_ | refine zcm ?_ | refine zcn ?_)
  first | refine zcp (by kernel_rfl) ?_ | refine zcr [(.quiet, 0), (.quiet, 1), (.quiet, 2), (.quiet, 3), (.loud, 4), (.quiet, 5), (.quiet, 6), (.loud, 7), (.quiet, 8), (.quiet, 9), (.quiet, 10), (.loud, 11)] PP_mixed (by kernel_rfl) (by kernel_rfl) ?_ | refine zcq PP_mixed (by kernel_rfl) (by kernel_rfl) ?_
  repeat' (refine zap rfl ?_; first | (refine zai [0, 0] (hdo p ⟨kn', [], [], 0, false⟩ rfl rfl rfl hkn') rfl rfl rfl (fun q hq => .tail _ hq) ?_; rintro v Γ' ⟨st, s, rfl, rfl, hL, hψ⟩) | ((with_reducible refine zcu ?_); refine zan rfl ?_))
  all_goals refine zch ?_
  all_goals repeat (first | refine zck ?_ | refine zcl ?_ | refine zcm ?_ | refine zcn ?_)
  have hks : ∀ a, lookW s.kn a = lookW kn a := fun a => by rw [hL.kn]; exact hkn' a
  have hrd : s.rd.length ≤ 4096 := nodup_bd 4096 s.rd hL.wf.nd (fun x hx => by
    cases h : lookW kn x with
    | none => exact absurd ((hks x).trans h) (hL.wf.rk x hx)
    | some w => have := hw.wd x w h; omega)
  have hfew := hL.few
  have hE := ents_spec w0 p s (by omega) (by omega) (fun x w h => (hw.wd x w ((hks x).symm.trans h)).1)
  have hcs := entries_cases hT hw hL.wf hL.live hks
  have hes : (Sp.entries s).1.length ≤ 4096 := by
    rcases hcs with h | h <;> rw [h]
    · show (esOf s).length ≤ 4096
      rw [esOf, List.length_map, List.length_mergeSort]; exact hrd
    · exact Nat.zero_le _
  repeat (first | refine zck ?_ | refine zcl ?_ | refine zcm ?_ | refine zcn ?_)
  first | refine zcp (by kernel_rfl) ?_ | refine zcr [(.quiet, 0), (.quiet, 1), (.quiet, 2), (.quiet, 3), (.loud, 4), (.quiet, 5), (.quiet, 6), (.loud, 7), (.quiet, 8), (.quiet, 9), (.quiet, 10), (.loud, 11)] PP_mixed (by kernel_rfl) (by kernel_rfl) ?_ | refine zcq PP_mixed (by kernel_rfl) (by kernel_rfl) ?_
  repeat' (refine zap rfl ?_; first | (refine zai [0] hE rfl rfl rfl sub_nil ?_; rintro v Γ' ⟨ea, ecap, rfl, rfl⟩) | ((with_reducible refine zcu ?_); refine zan rfl ?_) | ((with_reducible refine zcv ?_); refine zan rfl ?_) | ((with_reducible refine zcz ?_); refine zan rfl ?_))
  all_goals refine zch ?_
  all_goals repeat (first | refine zck ?_ | refine zcl ?_ | refine zcm ?_ | refine zcn ?_)
  repeat (first | refine zck ?_ | refine zcl ?_ | refine zcm ?_ | refine zcn ?_)
  first | refine zcp (by kernel_rfl) ?_ | refine zcr [(.quiet, 0), (.quiet, 1), (.quiet, 2), (.quiet, 3), (.loud, 4), (.quiet, 5), (.quiet, 6), (.loud, 7), (.quiet, 8), (.quiet, 9), (.quiet, 10), (.loud, 11)] PP_mixed (by kernel_rfl) (by kernel_rfl) ?_ | refine zcq PP_mixed (by kernel_rfl) (by kernel_rfl) ?_
  repeat' (refine zap rfl ?_; first | ((with_reducible refine zcv ?_); refine zan rfl ?_) | refine zcc (fun nb => ?_))
  all_goals refine zch ?_
  all_goals repeat (first | refine zck ?_ | refine zcl ?_ | refine zcm ?_ | refine zcn ?_)
  revert nb; intro nx
  repeat (first | refine zck ?_ | refine zcl ?_ | refine zcm ?_ | refine zcn ?_)
  first | refine zcp (by kernel_rfl) ?_ | refine zcr [(.quiet, 0), (.quiet, 1), (.quiet, 2), (.quiet, 3), (.loud, 4), (.quiet, 5), (.quiet, 6), (.loud, 7), (.quiet, 8), (.quiet, 9), (.quiet, 10), (.loud, 11)] PP_mixed (by kernel_rfl) (by kernel_rfl) ?_ | refine zcq PP_mixed (by kernel_rfl) (by kernel_rfl) ?_
  repeat' (refine zap rfl ?_; first | refine reg_rangeK rfl (sh_know 0 rfl) (fun nb => ?_) | ((with_reducible refine zcu ?_); refine zan rfl ?_))
  all_goals refine zch ?_
  all_goals repeat (refine zck ?_)
  revert nb; intro it
  have hel : ∀ (i : Nat) x, (Sp.entries s).1[i]? = some x → ∃ y, y ∈ s.rd ∧ x = entE s y ∧ (s.rd.mergeSort leI)[i]? = some y := fun i x hx => by
    rcases hcs with h | h <;> rw [h] at hx
    · dsimp only at hx
      rw [esOf, List.getElem?_map] at hx
      cases hy : (s.rd.mergeSort leI)[i]? with
      | none => rw [hy] at hx; cases hx
      | some y => rw [hy] at hx; exact ⟨y, List.mem_mergeSort.1 (List.mem_of_getElem? hy), (Option.some.inj hx).symm, rfl⟩
    · simp at hx
  have hfin : ((Sp.entries s).2 = 0 ∧ (Sp.entries s).1.length = s.rd.length) ∨ ((Sp.entries s).2 = 15 ∧ (Sp.entries s).1.length = 0) := by
    rcases hcs with h | h <;> rw [h]
    · exact .inl ⟨rfl, by rw [esOf, List.length_map, List.length_mergeSort]⟩
    · exact .inr ⟨rfl, rfl⟩
  clear hE hcs
  generalize hes0 : (Sp.entries s).1 = es at *
  generalize (Sp.entries s).2 = f at *
  refine run_bind_eq2 (σ := { kn2 : List (Int × Wd) // (kn2.map (·.1)).Nodup ∧ ∀ a, lookW kn2 a = lookW kn a })
    (l' := fun _ => [(0, .map (some wb)), (7, spP p), (8, .slice ea es.length ecap), (9, .int .i64 f), (10, .map (some nx))]) (Γ' := fun kn2 => [SpaceA p s, EnA ea ecap es, A' st, pt nx (mapI (knM kn2.1))]) ?_ ?_
  · refine zcl ?_
    refine run_loop (S := List (Int × Wd) × List Nat) (fun _ => [(0, .map (some wb)), (7, spP p), (8, .slice ea es.length ecap), (9, .int .i64 f), (10, .map (some nx)), (31, .pointer (some ⟨it, 0, none⟩))])
      (fun st' Γ => Γ = [SpaceA p s, EnA ea ecap es, A' st, pt nx (mapI (knM st'.1)), pt it (iterI wb (knM kn).length st'.2 (knM kn).length)] ∧ (∀ q ∈ st'.2, ∀ a w, kn[q]? = some (a, w) → lookW st'.1 a = some w) ∧ (∀ a w, lookW st'.1 a = some w → lookW kn a = some w) ∧ (st'.1.map (·.1)).Nodup)
      (fun st' => cnt kn.length st'.2) ([], []) ⟨rfl, rfl, rfl, rfl, rfl, rfl, trivial⟩ ⟨rfl, by simp, by simp [lookW], by simp⟩ ?_
    rintro ⟨kn2, seen⟩ Γ junk ⟨rfl, h1, h2, h3⟩
    dsimp only at h1 h2 h3 ⊢
    repeat (first | refine zck ?_ | refine zcl ?_ | refine zcm ?_ | refine zcn ?_ | refine zco ?_)
    refine zcp (by kernel_rfl) ?_
    refine zap rfl ?_
    refine reg_next 4 0 rfl rfl (sh_know 0 rfl) rfl (fun _ => rfl) (fun hall => ?_) (fun q e hq hns => ?_)
    · repeat' (first | refine zck ?_ | (refine zap rfl ?_; first | ((with_reducible refine zcz ?_); refine zan rfl ?_)) | refine zch ?_ | refine zcj rfl ?_)
      refine cut_exit rfl rfl ?_
      refine run_take [0, 0, 0, 0] rfl ?_
      refine cut_end ⟨rfl, ⟨kn2, h3, fun a => ?_⟩, ⟨rfl, rfl, rfl, rfl, rfl, trivial⟩, rfl⟩
      cases hk : lookW kn a with
      | none =>
        cases hk' : lookW kn2 a with
        | none => rfl
        | some w => have := h2 a w hk'; rw [hk] at this; cases this
      | some w =>
        obtain ⟨q, hq⟩ := lookW_mem kn a w hk
        have hql := (List.getElem?_eq_some_iff.1 hq).1
        exact h1 q (hall q (by rw [knM_length]; exact hql)) a w hq
    · rw [knM_get] at hq
      obtain ⟨⟨a, w⟩, hq2, rfl⟩ : ∃ aw, kn[q]? = some aw ∧ e = (aw.1, wordV aw.2) := by
        cases h : kn[q]? with
        | none => rw [h] at hq; cases hq
        | some aw => rw [h] at hq; exact ⟨aw, rfl, (Option.some.inj hq).symm⟩
      have hk1 := keys_look kn hw.nd q a w hq2
      have hql := (List.getElem?_eq_some_iff.1 hq2).1
      have hq3 : (knM kn)[q]? = some (a, wordV w) := by rw [knM_get, hq2]; rfl
      repeat' (refine zap rfl ?_; first | ((with_reducible refine zcz ?_); refine zan rfl ?_))
      refine zch ?_
      repeat (first | refine zck ?_ | refine zcl ?_ | refine zcm ?_ | refine zcn ?_ | refine zco ?_)
      refine zci rfl ?_
      repeat (first | refine zck ?_ | refine zcl ?_ | refine zcm ?_ | refine zcn ?_ | refine zco ?_)
      repeat (first | refine zck ?_ | refine zcl ?_ | refine zcm ?_ | refine zcn ?_)
      first | refine zcp (by kernel_rfl) ?_ | refine zcr [(.quiet, 0), (.quiet, 1), (.quiet, 2), (.quiet, 3), (.loud, 4), (.quiet, 5), (.quiet, 6), (.loud, 7), (.quiet, 8), (.quiet, 9), (.quiet, 10), (.loud, 11)] PP_mixed (by kernel_rfl) (by kernel_rfl) ?_ | refine zcq PP_mixed (by kernel_rfl) (by kernel_rfl) ?_
      repeat' (refine zap rfl ?_; first | refine reg_entry 4 rfl rfl (sh_know 0 rfl) hq3 ?_ | ((with_reducible refine zcv ?_); refine zan rfl ?_) | ((with_reducible refine zcz ?_); refine zan rfl ?_) | ((with_reducible refine zdd ?_); refine zae 5 rfl rfl rfl rfl rfl rfl rfl ?_) | ((with_reducible refine zdh ?_); refine zar (fun nb => ?_)))
      all_goals refine zch ?_
      all_goals repeat (first | refine zck ?_ | refine zcl ?_ | refine zcm ?_ | refine zcn ?_)
      refine run_share [5] rfl ?_
      repeat' (first | refine zcp (by kernel_rfl) ?_ | refine zcn ?_ | (refine zap rfl ?_; first | refine reg_mapUpdate 3 rfl rfl rfl rfl rfl ?_ | ((with_reducible refine zcu ?_); refine zan rfl ?_) | ((with_reducible refine zcw ?_); refine zaa 0 rfl rfl rfl ?_)) | refine zch ?_)
      refine cut_end ⟨rfl, (insW kn2 a w, seen ++ [q]), ⟨rfl, rfl, rfl, rfl, rfl, rfl, trivial⟩, ⟨?_, ?_, ?_, insW_keys _ _ _ h3⟩, ?_⟩
      · show _ = [_, _, _, pt nx (mapI (knM (insW kn2 a w))), _]
        rw [← ins_knM]; rfl
      · intro q' hq' a' w' h
        rw [look_insW]
        rcases List.mem_append.1 hq' with hq' | hq'
        · have := h1 q' hq' a' w' h
          by_cases e : a = a'
          · subst e; rw [if_pos rfl]
            have := keys_look kn hw.nd q' a w' h
            rw [hk1] at this; exact this
          · rw [if_neg e]; exact this
        · simp at hq'; subst hq'
          rw [hq2] at h; cases h; rw [if_pos rfl]
      · intro a' w' h
        rw [look_insW] at h
        by_cases e : a = a'
        · subst e; rw [if_pos rfl] at h; cases h; exact hk1
        · rw [if_neg e] at h; exact h2 a' w' h
      · have := (cnt_more q seen hns kn.length).2 hql
        dsimp only; omega
  rintro ⟨kn2, hn2, hk2⟩ junk
  dsimp only
  repeat (first | refine zck ?_ | refine zcl ?_ | refine zcm ?_ | refine zcn ?_)
  first | refine zcp (by kernel_rfl) ?_ | refine zcr [(.quiet, 0), (.quiet, 1), (.quiet, 2), (.quiet, 3), (.loud, 4), (.quiet, 5), (.quiet, 6), (.loud, 7), (.quiet, 8), (.quiet, 9), (.quiet, 10), (.loud, 11)] PP_mixed (by kernel_rfl) (by kernel_rfl) ?_ | refine zcq PP_mixed (by kernel_rfl) (by kernel_rfl) ?_
  repeat' (refine zap rfl ?_; first | ((with_reducible refine zcu ?_); refine zan rfl ?_) | ((with_reducible refine zcx ?_); refine zce rfl ?_))
  all_goals refine zch ?_
  all_goals repeat (refine zck ?_)
  refine run_bind_eq2 (σ := { kn3 : List (Int × Wd) // (kn3.map (·.1)).Nodup ∧ ∀ a, lookW kn3 a = partW kn s ((s.rd.mergeSort leI).take es.length) a })
    (l' := fun _ => [(0, .map (some wb)), (7, spP p), (8, .slice ea es.length ecap), (9, .int .i64 f), (10, .map (some nx))]) (Γ' := fun kn3 => [SpaceA p s, A' st, pt nx (mapI (knM kn3.1))]) ?_ ?_
  · refine zcl ?_
    refine run_loop (S := Nat × List (Int × Wd)) (fun st' => [(0, .map (some wb)), (7, spP p), (8, .slice ea es.length ecap), (9, .int .i64 f), (10, .map (some nx)), (40, .slice ea es.length ecap), (41, .int .i64 (es.length : Int)), (42, .int .i64 (st'.1 : Int))])
      (fun st' Γ => Γ = [SpaceA p s, EnA ea ecap es, A' st, pt nx (mapI (knM st'.2))] ∧ st'.1 ≤ es.length ∧ (st'.2.map (·.1)).Nodup ∧ ∀ a, lookW st'.2 a = partW kn s ((s.rd.mergeSort leI).take st'.1) a)
      (fun st' => es.length - st'.1) (0, kn2) ⟨rfl, rfl, rfl, rfl, rfl, rfl, rfl, rfl, trivial⟩ ⟨rfl, Nat.zero_le _, hn2, fun a => by rw [List.take_zero, partW_nil]; exact hk2 a⟩ ?_
    rintro ⟨j, kn3⟩ Γ junk ⟨rfl, h1, h2, h3⟩
    dsimp only at h1 h2 h3 ⊢
    by_cases hj : j < es.length
    · obtain ⟨x, hx⟩ : ∃ x, es[j]? = some x := ⟨_, List.getElem?_eq_getElem hj⟩
      obtain ⟨y, hy1, rfl, hy2⟩ := hel j x hx
      obtain ⟨wy, hwy⟩ : ∃ w, lookW kn y = some w := by
        cases h : lookW kn y with
        | none => exact absurd ((hks y).trans h) (hL.wf.rk y hy1)
        | some w => exact ⟨w, rfl⟩
      obtain ⟨v1, v2, v3, v4, v5⟩ := hw.wd y wy hwy
      have hold : oldW s y = wy := by unfold oldW; rw [hks, hwy]
      obtain ⟨w3, hw3⟩ : ∃ w3, lookW kn3 y = some w3 := by
        rw [h3]; unfold partW nextW
        split
        · rw [hwy]; exact ⟨_, rfl⟩
        · exact ⟨wy, hwy⟩
      have hl3 : Vc.look (knM kn3) y = some (wordV w3) := by rw [look_knM, hw3]; rfl
      have hlk : (Vc.look (knM kn) y).getD (.agg #[.int .i64 0, .int .u32 0, .int .u32 0]) = .agg #[.int .i64 wy.val, .int .u32 wy.ver, .int .u32 wy.ref] := by rw [look_knM, hwy]; rfl
      have hr : ∀ o, o = j * 6 → rd true 6 (flatE es) o = some (.agg (List.toArray [.int .i64 y, .int .i64 wy.val, .int .u32 wy.ver, .int .u32 wy.ref, .int .i64 (s.value y).1, .bool (s.value y).2])) := fun o ho => by
        rw [← hold]; exact flatE_rd hx o ho
      have ht : (s.rd.mergeSort leI).take (j + 1) = (s.rd.mergeSort leI).take j ++ [y] := by rw [List.take_add_one, hy2]; rfl
      have hwr : IntKind.u32.wrap (wy.ver + 1) = wy.ver + 1 := wrap_u32 (by omega) (by omega)
      refine run_sl_cases 1 rfl (fun _ h _ _ => absurd h (by omega)) ?_
      intro bb k1 k2 k3
      subst k1
      repeat' (first | refine zck ?_ | refine zcp (by kernel_rfl) ?_ | refine zcm ?_ | refine zcl ?_ | (refine zap rfl ?_; first | refine zag 1 rfl rfl (hr _ (by omega)) (by intro h; decide) ?_ | refine reg_lookupOk 3 rfl rfl rfl hl3 ?_ | refine reg_lookup_sh 0 rfl rfl rfl hlk ?_ | refine reg_ne_word rfl rfl ⟨rfl, rfl, rfl⟩ ?_ | ((with_reducible refine zct ?_); refine zaj rfl ?_) | ((with_reducible refine zcu ?_); refine zan rfl ?_) | ((with_reducible refine zcv ?_); refine zan rfl ?_) | ((with_reducible refine zcw ?_); refine zab 4 rfl rfl rfl ?_) | ((with_reducible refine zcy ?_); refine zao rfl ?_) | ((with_reducible refine zcz ?_); refine zan rfl ?_) | ((with_reducible refine zda ?_); refine zbg rfl rfl (by omega) ?_) | ((with_reducible refine zdb ?_); refine zbx rfl ?_) | ((with_reducible refine zdc ?_); refine zbv rfl ?_) | ((with_reducible refine zdd ?_); first | refine zae 4 rfl rfl rfl rfl rfl rfl rfl ?_ | refine zae 5 rfl rfl rfl rfl rfl rfl rfl ?_) | ((with_reducible refine zdf ?_); refine zas rfl rfl (by omega) ?_) | ((with_reducible refine zdh ?_); refine zar (fun nb => ?_))) | refine zch ?_ | refine zci rfl ?_ | refine zcj rfl ?_)
      refine run_condV rfl (fun hE => ?_) (fun hE => ?_)
      · have hE : (s.value y).2 = true := hE
        repeat' (first | refine zcp (by kernel_rfl) ?_ | refine zcn ?_ | (refine zap rfl ?_; first | (refine reg_add (t := 46) rfl rfl ?_; rw [hwr]) | refine reg_mapUpdate 3 rfl rfl rfl rfl rfl ?_ | ((with_reducible refine zcu ?_); refine zan rfl ?_) | ((with_reducible refine zcw ?_); refine zab 4 rfl rfl rfl ?_) | ((with_reducible refine zcy ?_); refine zao rfl ?_) | ((with_reducible refine zda ?_); refine zau rfl rfl (by omega) ?_) | refine zcb rfl ?_) | refine zch ?_)
        refine run_take [0, 0, 0, 0] rfl ?_
        refine cut_end ⟨rfl, (j + 1, insW kn3 y ⟨(s.value y).1, wy.ver + 1, 0⟩), ⟨rfl, rfl, rfl, rfl, rfl, rfl, rfl, int_eq (by dsimp only; omega), trivial⟩, ⟨?_, by dsimp only; omega, insW_keys _ _ _ h2, fun a => ?_⟩, by dsimp only; omega⟩
        · show _ = [_, _, _, pt nx (mapI (knM (insW kn3 y _)))]
          rw [← ins_knM]; rfl
        · dsimp only
          rw [look_insW, ht, partW_snoc, h3]
          by_cases e : y = a
          · subst e
            rw [if_pos rfl, if_pos rfl, nextW, hwy]
            simp [hE]
          · rw [if_neg e, if_neg e]
      · have hE : (s.value y).2 = false := hE
        repeat' (first | refine zcp (by kernel_rfl) ?_ | refine zcm ?_ | refine zcn ?_ | (refine zap rfl ?_; first | ((with_reducible refine zcu ?_); refine zan rfl ?_) | ((with_reducible refine zda ?_); refine zau rfl rfl (by omega) ?_)) | refine zch ?_)
        refine run_take [0, 0, 0, 0] rfl ?_
        refine cut_end ⟨rfl, (j + 1, kn3), ⟨rfl, rfl, rfl, rfl, rfl, rfl, rfl, int_eq (by dsimp only; omega), trivial⟩, ⟨rfl, by dsimp only; omega, h2, fun a => ?_⟩, by dsimp only; omega⟩
        dsimp only
        rw [ht, partW_snoc, h3]
        by_cases e : y = a
        · subst e
          rw [if_pos rfl]
          have : nextW kn s y = lookW kn y := by rw [nextW, hwy]; simp [hE]
          unfold partW
          split
          · rfl
          · exact this.symm
        · rw [if_neg e]
    · repeat' (first | refine zck ?_ | refine zcp (by kernel_rfl) ?_ | (refine zap rfl ?_; first | ((with_reducible refine zda ?_); refine zbh rfl rfl (by omega) ?_)) | refine zch ?_ | refine zcj rfl ?_)
      refine cut_exit rfl rfl ?_
      refine run_take [0, 1, 1] rfl ?_
      have e : j = es.length := by omega
      subst e
      exact cut_end ⟨rfl, ⟨kn3, h2, h3⟩, ⟨rfl, rfl, rfl, rfl, rfl, trivial⟩, rfl⟩
  rintro ⟨kn3, hn3, hk3⟩ junk
  dsimp only
  rcases hfin with ⟨rfl, hlen⟩ | ⟨rfl, hlen⟩
  · have hk4 : ∀ a, lookW kn3 a = nextW kn s a := fun a => by
      rw [hk3, hlen]
      refine partW_all (fun q hq => ?_) a
      rw [List.take_of_length_le (by rw [List.length_mergeSort]; omega), List.mem_mergeSort]
      exact hL.wf.pr q hq
    repeat' (first | refine zck ?_ | refine zcp (by kernel_rfl) ?_ | refine zcm ?_ | (refine zap rfl ?_; first | (refine zbx rfl ?_; rw [hL.live]) | ((with_reducible refine zct ?_); first | refine zaj rfl ?_ | refine zak rfl ?_) | ((with_reducible refine zcu ?_); refine zan rfl ?_) | ((with_reducible refine zcv ?_); refine zan rfl ?_) | ((with_reducible refine zcx ?_); refine zah [0] (ended_spec w0 p s) rfl rfl rfl sub_nil rfl ?_) | ((with_reducible refine zda ?_); first | refine zbc rfl rfl (by omega) ?_ | refine zbd rfl rfl (by omega) ?_) | ((with_reducible refine zdc ?_); refine zbu rfl ?_)) | refine zch ?_ | refine zcj rfl ?_)
    refine run_take [2, 1] rfl ?_
    exact ret_tmp3 rfl ⟨st, s, nx, ea, es.length, ecap, kn3, rfl, rfl, hψ, nextW_ok hw hn3 hk4, hk4⟩
  · have hk5 : ∀ a, lookW kn3 a = lookW kn a := fun a => by rw [hk3, hlen, List.take_zero, partW_nil]
    repeat (first | refine zck ?_ | refine zcl ?_ | refine zcm ?_ | refine zcn ?_)
    first | refine zcp (by kernel_rfl) ?_ | refine zcr [(.quiet, 0), (.quiet, 1), (.quiet, 2), (.quiet, 3), (.loud, 4), (.quiet, 5), (.quiet, 6), (.loud, 7), (.quiet, 8), (.quiet, 9), (.quiet, 10), (.loud, 11)] PP_mixed (by kernel_rfl) (by kernel_rfl) ?_ | refine zcq PP_mixed (by kernel_rfl) (by kernel_rfl) ?_
    repeat' (refine zap rfl ?_; first | ((with_reducible refine zcu ?_); refine zan rfl ?_) | ((with_reducible refine zda ?_); refine zbc rfl rfl (by omega) ?_))
    all_goals refine zch ?_
    all_goals repeat (first | refine zck ?_ | refine zcl ?_ | refine zcm ?_ | refine zcn ?_)
    refine run_bind_eq2 (σ := { q : Sp × List (Int × Wd) // q.1.ended = false ∧ (q.2.map (·.1)).Nodup ∧ ∀ a, lookW q.2 a = nextW kn s a })
      (l' := fun _ => [(0, .map (some wb)), (7, spP p), (8, .slice ea es.length ecap), (9, .int .i64 15), (10, .map (some nx))]) (Γ' := fun q => [SpaceA p q.1.1, A' st, pt nx (mapI (knM q.1.2))]) ?_ ?_
    · refine zci rfl ?_
      have hW := writes_spec w0 p s (by omega)
      have hwl : s.writes.length ≤ s.puts.length := by
        have := ddN_le ((s.puts.map (·.1)).mergeSort (fun x y => decide (x ≤ y))) ((s.puts.map (·.1)).mergeSort (fun x y => decide (x ≤ y))).length
        rw [List.length_mergeSort, List.length_map] at this
        unfold Sp.writes
        simp only [List.length_mergeSort, List.length_map]
        exact this
      repeat (first | refine zck ?_ | refine zcl ?_ | refine zcm ?_ | refine zcn ?_)
      first | refine zcp (by kernel_rfl) ?_ | refine zcr [(.quiet, 0), (.quiet, 1), (.quiet, 2), (.quiet, 3), (.loud, 4), (.quiet, 5), (.quiet, 6), (.loud, 7), (.quiet, 8), (.quiet, 9), (.quiet, 10), (.loud, 11)] PP_mixed (by kernel_rfl) (by kernel_rfl) ?_ | refine zcq PP_mixed (by kernel_rfl) (by kernel_rfl) ?_
      repeat' (refine zap rfl ?_; first | (refine zai [0] hW rfl rfl rfl sub_nil ?_; rintro v Γ' ⟨wa, wcap, rfl, rfl⟩) | ((with_reducible refine zcu ?_); refine zan rfl ?_) | ((with_reducible refine zcx ?_); refine zce rfl ?_))
      all_goals refine zch ?_
      all_goals repeat (refine zck ?_)
      refine zcl ?_
      refine run_loop (S := Nat × Sp × List (Int × Wd)) (fun st' => [(0, .map (some wb)), (7, spP p), (8, .slice ea es.length ecap), (9, .int .i64 15), (10, .map (some nx)), (81, .slice wa s.writes.length wcap), (82, .int .i64 (s.writes.length : Int)), (83, .int .i64 (st'.1 : Int))])
        (fun st' Γ => Γ = [SpaceA p st'.2.1, SlA 27 1 wa s.writes.length wcap (intsV s.writes), A' st, pt nx (mapI (knM st'.2.2))] ∧ st'.1 ≤ s.writes.length ∧ (st'.2.1.ended = false ∧ st'.2.1.kn = s.kn ∧ st'.2.1.puts = s.puts) ∧ (st'.2.2.map (·.1)).Nodup ∧ ∀ a, lookW st'.2.2 a = partW kn s (s.writes.take st'.1) a)
        (fun st' => s.writes.length - st'.1) (0, s, kn3) ⟨rfl, rfl, rfl, rfl, rfl, rfl, rfl, rfl, trivial⟩ ⟨rfl, Nat.zero_le _, ⟨hL.live, rfl, rfl⟩, hn3, fun a => by rw [List.take_zero, partW_nil]; exact hk5 a⟩ ?_
      rintro ⟨j, s2, kn4⟩ Γ junk ⟨rfl, h1, ⟨g1, g2, g3⟩, h2, h3⟩
      dsimp only at h1 g1 g2 g3 h2 h3 ⊢
      by_cases hj : j < s.writes.length
      · obtain ⟨y, hy⟩ : ∃ y, s.writes[j]? = some y := ⟨_, List.getElem?_eq_getElem hj⟩
        have hr := ints_rd hy
        obtain ⟨pq, hpq, hpy⟩ := (Sp.writes_mem y).1 (List.mem_of_getElem? hy)
        have hyrd := hL.wf.pr pq hpq
        rw [hpy] at hyrd
        obtain ⟨wy, hwy⟩ : ∃ w, lookW kn y = some w := by
          cases h : lookW kn y with
          | none => exact absurd ((hks y).trans h) (hL.wf.rk y hyrd)
          | some w => exact ⟨w, rfl⟩
        obtain ⟨v1, v2, v3, v4, v5⟩ := hw.wd y wy hwy
        have hE : (s.value y).2 = true := hpy ▸ value_wr hpq
        have hval : s2.value y = s.value y := by simp only [Sp.value, g2, g3]
        have hg := get_live (s := s2) (x := y) g1 (by rw [g2, hks]; exact hwy)
        have hG := get_spec w0 p s2 y (by rw [g3]; omega)
        rw [hg, hval] at hG
        have hlk : (Vc.look (knM kn) y).getD (.agg #[.int .i64 0, .int .u32 0, .int .u32 0]) = .agg #[.int .i64 wy.val, .int .u32 wy.ver, .int .u32 wy.ref] := by rw [look_knM, hwy]; rfl
        have ht : s.writes.take (j + 1) = s.writes.take j ++ [y] := by rw [List.take_add_one, hy]; rfl
        have hwr : IntKind.u32.wrap (wy.ver + 1) = wy.ver + 1 := wrap_u32 (by omega) (by omega)
        refine run_sl_cases 1 rfl (fun _ h _ _ => absurd h (by omega)) ?_
        intro bb k1 k2 k3
        subst k1
        repeat (first | refine zck ?_ | refine zcl ?_ | refine zcm ?_ | refine zcn ?_)
        first | refine zcp (by kernel_rfl) ?_ | refine zcr [(.quiet, 0), (.quiet, 1), (.quiet, 2), (.quiet, 3), (.loud, 4), (.quiet, 5), (.quiet, 6), (.loud, 7), (.quiet, 8), (.quiet, 9), (.quiet, 10), (.loud, 11)] PP_mixed (by kernel_rfl) (by kernel_rfl) ?_ | refine zcq PP_mixed (by kernel_rfl) (by kernel_rfl) ?_
        repeat' (refine zap rfl ?_; first | ((with_reducible refine zda ?_); refine zbg rfl rfl (by omega) ?_))
        all_goals refine zch ?_
        all_goals repeat (first | refine zck ?_ | refine zcl ?_ | refine zcm ?_ | refine zcn ?_)
        refine zci rfl ?_
        repeat (first | refine zck ?_ | refine zcl ?_ | refine zcm ?_ | refine zcn ?_)
        first | refine zcp (by kernel_rfl) ?_ | refine zcr [(.quiet, 0), (.quiet, 1), (.quiet, 2), (.quiet, 3), (.loud, 4), (.quiet, 5), (.quiet, 6), (.loud, 7), (.quiet, 8), (.quiet, 9), (.quiet, 10), (.loud, 11)] PP_mixed (by kernel_rfl) (by kernel_rfl) ?_ | refine zcq PP_mixed (by kernel_rfl) (by kernel_rfl) ?_
        repeat' (refine zap rfl ?_; first | refine zag 1 rfl rfl (hr _ (by omega)) (by intro h; cases h) ?_ | ((with_reducible refine zcv ?_); refine zan rfl ?_) | ((with_reducible refine zdf ?_); refine zas rfl rfl (by omega) ?_))
        all_goals refine zch ?_
        all_goals repeat (refine zck ?_)
        refine zcr [(.quiet, 0), (.quiet, 1), (.quiet, 2), (.quiet, 3), (.loud, 4), (.quiet, 5), (.quiet, 6), (.quiet, 7), (.quiet, 8), (.quiet, 9), (.quiet, 10), (.loud, 11)] PP_mixed (by kernel_rfl) (by kernel_rfl) ?_
        repeat' (refine zap rfl ?_; first | refine reg_lookup_sh 0 rfl rfl rfl hlk ?_ | refine reg_fieldV rfl rfl ?_ | (refine reg_add (t := 46) rfl rfl ?_; rw [hwr]) | refine zcb rfl ?_ | refine reg_mapUpdate 3 rfl rfl rfl rfl rfl ?_ | ((with_reducible refine zcu ?_); refine zan rfl ?_) | ((with_reducible refine zcx ?_); refine zah [0] hG rfl rfl rfl sub_nil rfl ?_))
        refine zch ?_
        repeat' (first | refine zcp (by kernel_rfl) ?_ | refine zcn ?_ | (refine zap rfl ?_; first | ((with_reducible refine zcu ?_); refine zan rfl ?_) | ((with_reducible refine zda ?_); refine zau rfl rfl (by omega) ?_)) | refine zch ?_)
        refine cut_end ⟨rfl, (j + 1, { s2 with rd := insI s2.rd y }, insW kn4 y ⟨(s.value y).1, wy.ver + 1, 0⟩), ⟨rfl, rfl, rfl, rfl, rfl, rfl, rfl, int_eq (by dsimp only; omega), trivial⟩, ⟨?_, by dsimp only; omega, ⟨g1, g2, g3⟩, insW_keys _ _ _ h2, fun a => ?_⟩, by dsimp only; omega⟩
        · show _ = [_, _, _, pt nx (mapI (knM (insW kn4 y _)))]
          rw [← ins_knM]; rfl
        · dsimp only
          rw [look_insW, ht, partW_snoc, h3]
          by_cases e : y = a
          · subst e
            rw [if_pos rfl, if_pos rfl, nextW, hwy]
            simp [hE]
          · rw [if_neg e, if_neg e]
      · repeat' (first | refine zck ?_ | refine zcp (by kernel_rfl) ?_ | (refine zap rfl ?_; first | ((with_reducible refine zda ?_); refine zbh rfl rfl (by omega) ?_)) | refine zch ?_ | refine zcj rfl ?_)
        refine cut_exit rfl rfl ?_
        refine run_take [0, 1, 1] rfl ?_
        have e : j = s.writes.length := by omega
        subst e
        refine cut_end ⟨rfl, ⟨(s2, kn4), g1, h2, fun a => ?_⟩, ⟨rfl, rfl, rfl, rfl, rfl, trivial⟩, rfl⟩
        dsimp only
        rw [h3]
        refine partW_all (fun q hq => ?_) a
        rw [List.take_length]
        exact (Sp.writes_mem _).2 ⟨q, hq, rfl⟩
    · rintro ⟨⟨s2, kn4⟩, g1, hn4, hk4⟩ junk
      dsimp only at g1 hn4 hk4 ⊢
      repeat' (first | refine zck ?_ | refine zcp (by kernel_rfl) ?_ | (refine zap rfl ?_; first | (refine zbx rfl ?_; rw [g1]) | ((with_reducible refine zct ?_); refine zaj rfl ?_) | ((with_reducible refine zcu ?_); refine zan rfl ?_) | ((with_reducible refine zcv ?_); refine zan rfl ?_) | ((with_reducible refine zcx ?_); refine zah [0] (ended_spec w0 p s2) rfl rfl rfl sub_nil rfl ?_) | ((with_reducible refine zda ?_); first | refine zbc rfl rfl (by omega) ?_ | refine zbd rfl rfl (by omega) ?_) | ((with_reducible refine zdc ?_); first | refine zbu rfl ?_ | refine zbv rfl ?_)) | refine zch ?_)
      refine run_take [2, 1] rfl ?_
      refine ret_tmp3 rfl ?_
      exact ⟨st, s, nx, ea, es.length, ecap, kn4, rfl, rfl, hψ, nextW_ok hw hn4 hk4, hk4⟩
end Go.Proofs.Ytpcnbaddkblbhaa

/- The reference of the forest: copy, Make, Is, Find, Nodes, Sets. -/
namespace Sim
open Go Go.Vc
structure Rf where
  below : List Int
  size : List Int
  joins : List Int
def Rf.make (r : Rf) : Rf := ⟨r.below ++ [0], r.size ++ [1], r.joins⟩
/-- From `x` the way up comes to `r` in so many steps. -/
def UpN (b : List Int) : Nat → Int → Int → Prop
  | 0, x, r => x = r ∧ 1 ≤ x ∧ b[(x - 1).toNat]? = some 0
  | k + 1, x, r => 1 ≤ x ∧ ∃ y, b[(x - 1).toNat]? = some y ∧ y ≠ 0 ∧ UpN b k y r
end Sim
namespace Go.Proofs.Ytpcnbaddkblbhaa
open Go.Vc Sim
set_option maxHeartbeats 4000000
abbrev rV (a1 : Option Addr) (c1 : Nat) (a2 : Option Addr) (c2 : Nat) (a3 : Option Addr) (c3 : Nat) (b z j : List Int) : Value := .agg (List.toArray [.slice a1 b.length c1, .slice a2 z.length c2, .slice a3 j.length c3])
abbrev rP (a1 : Option Addr) (c1 : Nat) (a2 : Option Addr) (c2 : Nat) (a3 : Option Addr) (c3 : Nat) (b z j : List Int) : List Asn := [SlA 3 1 a1 b.length c1 (intsV b), SlA 3 1 a2 z.length c2 (intsV z), SlA 3 1 a3 j.length c3 (intsV j)]
/-- A reference's forest comes out. -/
abbrev rOut (b z j : List Int) (v : Value) (Γ : List Asn) : Prop := ∃ a1 c1 a2 c2 a3 c3, v = rV a1 c1 a2 c2 a3 c3 b z j ∧ Γ = rP a1 c1 a2 c2 a3 c3 b z j
structure RaR (w0 : World) (sh : Shared) (a1 : Option Addr) (c1 : Nat) (a2 : Option Addr) (c2 : Nat) (a3 : Option Addr) (c3 : Nat) (b z j : List Int) : Prop where
  r1 : RdSl w0 sh encI 1 (.slice a1 b.length c1) b
  r2 : RdSl w0 sh encI 1 (.slice a2 z.length c2) z
  r3 : RdSl w0 sh encI 1 (.slice a3 j.length c3) j
  l1 : b.length ≤ 1000
  l2 : z.length ≤ 1000
  l3 : j.length ≤ 1000
section
variable {a1 : Option Addr} {c1 : Nat} {a2 : Option Addr} {c2 : Nat} {a3 : Option Addr} {c3 : Nat} {b z j : List Int}
theorem RaR.mono {w0 : World} {sh sh' : Shared} (h : RaR w0 sh a1 c1 a2 c2 a3 c3 b z j) (hs : ∀ p ∈ sh, p ∈ sh') : RaR w0 sh' a1 c1 a2 c2 a3 c3 b z j := ⟨h.r1.mono hs, h.r2.mono hs, h.r3.mono hs, h.l1, h.l2, h.l3⟩
theorem rfCopy (w0 : World) (sh : Shared) (h : RaR w0 sh a1 c1 a2 c2 a3 c3 b z j) :
    Vc.Fn PP w0 sh 72 [rV a1 c1 a2 c2 a3 c3 b z j] [] (rOut b z j) := by
  obtain ⟨r1, r2, r3, l1, l2, l3⟩ := h
  refine fn_of_run en72 fn72 rfl rfl rfl ?_
  refine run_nilslice 3 1 ?_
  refine run_nilslice 3 1 ?_
  refine run_nilslice 3 1 ?_
  repeat (first | refine zck ?_ | refine zcl ?_ | refine zcm ?_ | refine zcn ?_)
  first | refine zcp (by kernel_rfl) ?_ | refine zcq PP_mixed (by kernel_rfl) (by kernel_rfl) ?_
  repeat' (refine zap rfl ?_; first | ((with_reducible refine zdg ?_); refine zaq (cs := [_, _, _]) rfl (fun nb => ?_)) | ((with_reducible refine zdh ?_); refine zar (fun nb => ?_)))
  all_goals refine zch ?_
  all_goals repeat (first | refine zck ?_ | refine zcl ?_ | refine zcm ?_ | refine zcn ?_)
  refine run_share [3] rfl ?_
  repeat (first | refine zck ?_ | refine zcl ?_ | refine zcm ?_ | refine zcn ?_)
  first | refine zcp (by kernel_rfl) ?_ | refine zcq PP_mixed (by kernel_rfl) (by kernel_rfl) ?_
  repeat' (refine zap rfl ?_; first | ((with_reducible refine zdh ?_); refine zar (fun nb => ?_)))
  all_goals refine zch ?_
  all_goals repeat (first | refine zck ?_ | refine zcl ?_ | refine zcm ?_ | refine zcn ?_)
  repeat (first | refine zck ?_ | refine zcl ?_ | refine zcm ?_ | refine zcn ?_)
  first | refine zcp (by kernel_rfl) ?_ | refine zcq PP_mixed (by kernel_rfl) (by kernel_rfl) ?_
  repeat' (refine zap rfl ?_; first | refine reg_append_rd 0 rfl rfl (r1.mono (fun _ hp => .tail _ hp)) rfl rfl (by omega) (fun _ _ => rfl) (fun a1' c1' => ?_) | ((with_reducible refine zcw ?_); first | refine zaa 0 rfl rfl rfl ?_ | refine zab 4 rfl rfl rfl ?_) | ((with_reducible refine zcy ?_); refine zao rfl ?_) | ((with_reducible refine zdd ?_); refine zae 4 rfl rfl rfl rfl rfl rfl rfl ?_))
  all_goals refine zch ?_
  all_goals repeat (first | refine zck ?_ | refine zcl ?_ | refine zcm ?_ | refine zcn ?_)
  repeat (first | refine zck ?_ | refine zcl ?_ | refine zcm ?_ | refine zcn ?_)
  first | refine zcp (by kernel_rfl) ?_ | refine zcq PP_mixed (by kernel_rfl) (by kernel_rfl) ?_
  repeat' (refine zap rfl ?_; first | refine reg_append_rd 1 rfl rfl (r2.mono (fun _ hp => .tail _ hp)) rfl rfl (by omega) (fun _ _ => rfl) (fun a2' c2' => ?_) | ((with_reducible refine zcw ?_); first | refine zaa 0 rfl rfl rfl ?_ | refine zab 4 rfl rfl rfl ?_) | ((with_reducible refine zcy ?_); refine zao rfl ?_) | ((with_reducible refine zdd ?_); refine zae 4 rfl rfl rfl rfl rfl rfl rfl ?_))
  all_goals refine zch ?_
  all_goals repeat (first | refine zck ?_ | refine zcl ?_ | refine zcm ?_ | refine zcn ?_)
  repeat (first | refine zck ?_ | refine zcl ?_ | refine zcm ?_ | refine zcn ?_)
  first | refine zcp (by kernel_rfl) ?_ | refine zcq PP_mixed (by kernel_rfl) (by kernel_rfl) ?_
  repeat' (refine zap rfl ?_; first | refine reg_append_rd 2 rfl rfl (r3.mono (fun _ hp => .tail _ hp)) rfl rfl (by omega) (fun _ _ => rfl) (fun a3' c3' => ?_) | ((with_reducible refine zcw ?_); first | refine zaa 0 rfl rfl rfl ?_ | refine zab 4 rfl rfl rfl ?_) | ((with_reducible refine zcy ?_); refine zao rfl ?_) | ((with_reducible refine zdd ?_); refine zae 4 rfl rfl rfl rfl rfl rfl rfl ?_))
  all_goals refine zch ?_
  all_goals repeat (first | refine zck ?_ | refine zcl ?_ | refine zcm ?_ | refine zcn ?_)
  repeat (first | refine zck ?_ | refine zcl ?_ | refine zcm ?_ | refine zcn ?_)
  first | refine zcp (by kernel_rfl) ?_ | refine zcq PP_mixed (by kernel_rfl) (by kernel_rfl) ?_
  repeat' (refine zap rfl ?_; first | ((with_reducible refine zcw ?_); refine zab 4 rfl rfl rfl ?_) | ((with_reducible refine zdd ?_); refine zae 3 rfl rfl rfl rfl rfl rfl rfl ?_))
  all_goals refine zch ?_
  all_goals repeat (first | refine zck ?_ | refine zcl ?_ | refine zcm ?_ | refine zcn ?_)
  refine run_ret (leaves_nil (ends_take [0, 0, 0] rfl (ends_one rfl (resOk_pt 3 rfl rfl rfl) ⟨rfl, a1', c1', a2', c2', a3', c3', ?_, ?_⟩)))
  · exact (show _ = Value.agg (List.toArray [.slice a1' (0 + b.length) c1', .slice a2' (0 + z.length) c2', .slice a3' (0 + j.length) c3']) from rfl).trans (by simp only [Nat.zero_add])
  · simp only [Nat.zero_add, List.nil_append]
theorem rfMake (w0 : World) (sh : Shared) (h : RaR w0 sh a1 c1 a2 c2 a3 c3 b z j) :
    Vc.Fn PP w0 sh 59 [rV a1 c1 a2 c2 a3 c3 b z j] [] (rOut (b ++ [0]) (z ++ [1]) j) := by
  have hC := rfCopy w0 sh h
  have l1 := h.l1
  have l2 := h.l2
  refine fn_of_run en59 fn59 rfl rfl rfl ?_
  repeat (first | refine zck ?_ | refine zcl ?_ | refine zcm ?_ | refine zcn ?_)
  first | refine zcp (by kernel_rfl) ?_ | refine zcq PP_mixed (by kernel_rfl) (by kernel_rfl) ?_
  repeat' (refine zap rfl ?_; first | ((with_reducible refine zdg ?_); refine zaq (cs := [_, _, _]) rfl (fun nb => ?_)) | ((with_reducible refine zdh ?_); refine zar (fun nb => ?_)))
  all_goals refine zch ?_
  all_goals repeat (first | refine zck ?_ | refine zcl ?_ | refine zcm ?_ | refine zcn ?_)
  repeat (first | refine zck ?_ | refine zcl ?_ | refine zcm ?_ | refine zcn ?_)
  first | refine zcp (by kernel_rfl) ?_ | refine zcq PP_mixed (by kernel_rfl) (by kernel_rfl) ?_
  repeat' (refine zap rfl ?_; first | (refine zai [] hC rfl rfl rfl (fun _ h => h) ?_; rintro v Γ' ⟨b1, d1, b2, d2, b3, d3, rfl, rfl⟩) | ((with_reducible refine zcw ?_); refine zab 0 rfl rfl rfl ?_) | ((with_reducible refine zdd ?_); refine zae 5 rfl rfl rfl rfl rfl rfl rfl ?_) | ((with_reducible refine zdh ?_); refine zar (fun nb => ?_)))
  all_goals refine zch ?_
  all_goals repeat (first | refine zck ?_ | refine zcl ?_ | refine zcm ?_ | refine zcn ?_)
  repeat (first | refine zck ?_ | refine zcl ?_ | refine zcm ?_ | refine zcn ?_)
  first | refine zcp (by kernel_rfl) ?_ | refine zcq PP_mixed (by kernel_rfl) (by kernel_rfl) ?_
  repeat' (refine zap rfl ?_; first | refine reg_buildSlice rfl rfl rfl rfl rfl rfl (fun nb => ?_) | refine reg_append 0 6 rfl rfl rfl rfl rfl rfl rfl rfl (by omega) (fun _ _ => rfl) (fun a1' c1' => ?_) | ((with_reducible refine zcw ?_); refine zab 5 rfl rfl rfl ?_) | ((with_reducible refine zcy ?_); refine zao rfl ?_) | ((with_reducible refine zdd ?_); refine zae 5 rfl rfl rfl rfl rfl rfl rfl ?_))
  all_goals refine zch ?_
  all_goals repeat (first | refine zck ?_ | refine zcl ?_ | refine zcm ?_ | refine zcn ?_)
  repeat (first | refine zck ?_ | refine zcl ?_ | refine zcm ?_ | refine zcn ?_)
  first | refine zcp (by kernel_rfl) ?_ | refine zcq PP_mixed (by kernel_rfl) (by kernel_rfl) ?_
  repeat' (refine zap rfl ?_; first | refine reg_buildSlice rfl rfl rfl rfl rfl rfl (fun nb => ?_) | refine reg_append 1 7 rfl rfl rfl rfl rfl rfl rfl rfl (by omega) (fun _ _ => rfl) (fun a2' c2' => ?_) | ((with_reducible refine zcw ?_); refine zab 5 rfl rfl rfl ?_) | ((with_reducible refine zcy ?_); refine zao rfl ?_) | ((with_reducible refine zdd ?_); refine zae 5 rfl rfl rfl rfl rfl rfl rfl ?_))
  all_goals refine zch ?_
  all_goals repeat (first | refine zck ?_ | refine zcl ?_ | refine zcm ?_ | refine zcn ?_)
  repeat (first | refine zck ?_ | refine zcl ?_ | refine zcm ?_ | refine zcn ?_)
  first | refine zcp (by kernel_rfl) ?_ | refine zcq PP_mixed (by kernel_rfl) (by kernel_rfl) ?_
  repeat' (refine zap rfl ?_; first | ((with_reducible refine zcw ?_); refine zab 5 rfl rfl rfl ?_) | ((with_reducible refine zdd ?_); refine zae 4 rfl rfl rfl rfl rfl rfl rfl ?_))
  all_goals refine zch ?_
  all_goals repeat (first | refine zck ?_ | refine zcl ?_ | refine zcm ?_ | refine zcn ?_)
  refine run_ret (leaves_nil (ends_take [0, 0, 0] rfl (ends_one rfl (resOk_pt 4 rfl rfl rfl) ⟨rfl, a1', c1', a2', c2', b3, d3, ?_, ?_⟩)))
  · exact (show _ = Value.agg (List.toArray [.slice a1' (b.length + 1) c1', .slice a2' (z.length + 1) c2', .slice b3 j.length d3]) from rfl).trans (by simp only [rV, List.length_append, List.length_cons, List.length_nil])
  · exact (show _ = [SlA 3 1 a1' (b.length + 1) c1' (intsV b ++ [.int .i64 0]), SlA 3 1 a2' (z.length + 1) c2' (intsV z ++ [.int .i64 1]), SlA 3 1 b3 j.length d3 (intsV j)] from rfl).trans (by simp [rP, intsV])
theorem rfIs (w0 : World) (sh : Shared) (h : RaR w0 sh a1 c1 a2 c2 a3 c3 b z j) (x : Int) :
    FnE PP w0 sh 55 [rV a1 c1 a2 c2 a3 c3 b z j, .int .i64 x] [] (.bool (decide (1 ≤ x ∧ x ≤ b.length))) [] := by
  have l1 := h.l1
  refine fn_of_run en55 fn55 rfl rfl rfl ?_
  repeat (first | refine zck ?_ | refine zcl ?_ | refine zcm ?_ | refine zcn ?_)
  first | refine zcp (by kernel_rfl) ?_ | refine zcq PP_mixed (by kernel_rfl) (by kernel_rfl) ?_
  repeat' (refine zap rfl ?_; first | ((with_reducible refine zcv ?_); refine zan rfl ?_) | ((with_reducible refine zdg ?_); refine zaq (cs := [_, _, _]) rfl (fun nb => ?_)))
  all_goals refine zch ?_
  all_goals repeat (first | refine zck ?_ | refine zcl ?_ | refine zcm ?_ | refine zcn ?_)
  refine run_share [0] rfl ?_
  by_cases hx : 1 ≤ x
  · by_cases hx2 : x ≤ b.length
    · rw [decide_eq_true ⟨hx, hx2⟩]
      repeat' (first | refine zcp (by kernel_rfl) ?_ | (refine zap rfl ?_; first | ((with_reducible refine zct ?_); refine zaj rfl ?_) | ((with_reducible refine zcu ?_); refine zan rfl ?_) | ((with_reducible refine zcv ?_); refine zan rfl ?_) | ((with_reducible refine zcw ?_); refine zaa 0 rfl rfl rfl ?_) | ((with_reducible refine zcx ?_); refine zce rfl ?_) | ((with_reducible refine zcy ?_); refine zao rfl ?_) | ((with_reducible refine zda ?_); first | refine zbi rfl rfl (by omega) ?_ | refine zbm rfl rfl (by omega) ?_) | ((with_reducible refine zdc ?_); refine zbu rfl ?_)) | refine zch ?_)
      exact ret_tmp1 rfl ⟨rfl, rfl⟩
    · rw [decide_eq_false (fun h => hx2 h.2)]
      repeat' (first | refine zcp (by kernel_rfl) ?_ | (refine zap rfl ?_; first | ((with_reducible refine zct ?_); refine zaj rfl ?_) | ((with_reducible refine zcu ?_); refine zan rfl ?_) | ((with_reducible refine zcv ?_); refine zan rfl ?_) | ((with_reducible refine zcw ?_); refine zaa 0 rfl rfl rfl ?_) | ((with_reducible refine zcx ?_); refine zce rfl ?_) | ((with_reducible refine zcy ?_); refine zao rfl ?_) | ((with_reducible refine zda ?_); first | refine zbj rfl rfl (by omega) ?_ | refine zbm rfl rfl (by omega) ?_) | ((with_reducible refine zdc ?_); refine zbu rfl ?_)) | refine zch ?_)
      exact ret_tmp1 rfl ⟨rfl, rfl⟩
  · rw [decide_eq_false (fun h => hx h.1)]
    repeat' (first | refine zcp (by kernel_rfl) ?_ | (refine zap rfl ?_; first | ((with_reducible refine zct ?_); refine zak rfl ?_) | ((with_reducible refine zcu ?_); refine zan rfl ?_) | ((with_reducible refine zcv ?_); refine zan rfl ?_) | ((with_reducible refine zda ?_); refine zbn rfl rfl (by omega) ?_) | ((with_reducible refine zdc ?_); refine zbv rfl ?_)) | refine zch ?_)
    exact ret_tmp1 rfl ⟨rfl, rfl⟩
theorem rfSets (w0 : World) (sh : Shared) (h : RaR w0 sh a1 c1 a2 c2 a3 c3 b z j) :
    FnE PP w0 sh 62 [rV a1 c1 a2 c2 a3 c3 b z j] [] (.int .i64 ((b.length : Int) - j.length)) [] := by
  have l1 := h.l1
  have l3 := h.l3
  refine fn_of_run en62 fn62 rfl rfl rfl ?_
  repeat (first | refine zck ?_ | refine zcl ?_ | refine zcm ?_ | refine zcn ?_)
  first | refine zcp (by kernel_rfl) ?_ | refine zcq PP_mixed (by kernel_rfl) (by kernel_rfl) ?_
  repeat' (refine zap rfl ?_; first | ((with_reducible refine zcv ?_); refine zan rfl ?_) | ((with_reducible refine zdg ?_); refine zaq (cs := [_, _, _]) rfl (fun nb => ?_)))
  all_goals refine zch ?_
  all_goals repeat (first | refine zck ?_ | refine zcl ?_ | refine zcm ?_ | refine zcn ?_)
  refine run_share [0] rfl ?_
  repeat' (first | refine zcp (by kernel_rfl) ?_ | (refine zap rfl ?_; first | ((with_reducible refine zcv ?_); refine zan rfl ?_) | ((with_reducible refine zcw ?_); refine zaa 0 rfl rfl rfl ?_) | ((with_reducible refine zcx ?_); refine zce rfl ?_) | ((with_reducible refine zcy ?_); refine zao rfl ?_) | ((with_reducible refine zda ?_); refine zav rfl rfl (by omega) ?_)) | refine zch ?_)
  exact ret_tmp1 rfl ⟨rfl, rfl⟩
theorem rfNodes (w0 : World) (n : Int) (hn : 0 ≤ n ∧ n ≤ 1000) : FnE PP w0 [] 60 [.int .i64 n] [] (.int .i64 ((n + 1) / 2 + ((n + 1) / 2 + 7) / 8)) [] := by
  refine fn_of_run en60 fn60 rfl rfl rfl ?_
  repeat' (first | refine zck ?_ | refine zcp (by kernel_rfl) ?_ | (refine zap rfl ?_; first | ((with_reducible refine zcu ?_); refine zan rfl ?_) | ((with_reducible refine zcv ?_); refine zan rfl ?_) | ((with_reducible refine zda ?_); first | refine zau rfl rfl (by omega) ?_ | refine zax rfl rfl (by omega) ?_)) | refine zch ?_)
  exact ret_tmp1 rfl ⟨rfl, rfl⟩
theorem rfFind (w0 : World) (sh : Shared) (h : RaR w0 sh a1 c1 a2 c2 a3 c3 b z j) (k : Nat) (x r : Int) (hu : UpN b k x r) :
    FnE PP w0 sh 71 [rV a1 c1 a2 c2 a3 c3 b z j, .int .i64 x] [] (.int .i64 r) [] := by
  have l1 := h.l1
  have r1 := h.r1
  refine fn_of_run en71 fn71 rfl rfl rfl ?_
  repeat (first | refine zck ?_ | refine zcl ?_ | refine zcm ?_ | refine zcn ?_)
  first | refine zcp (by kernel_rfl) ?_ | refine zcq PP_mixed (by kernel_rfl) (by kernel_rfl) ?_
  repeat' (refine zap rfl ?_; first | ((with_reducible refine zcv ?_); refine zan rfl ?_) | ((with_reducible refine zdg ?_); refine zaq (cs := [_, _, _]) rfl (fun nb => ?_)))
  all_goals refine zch ?_
  all_goals repeat (first | refine zck ?_ | refine zcl ?_ | refine zcm ?_ | refine zcn ?_)
  refine run_share [0] rfl ?_
  refine run_loop (S := Nat × Int) (fun st => [(2, .pointer (some ⟨nb, 0, none⟩)), (1, .int .i64 st.2)])
    (fun st Γ => Γ = [] ∧ UpN b st.1 st.2 r) (fun st => st.1) (k, x) ⟨rfl, rfl, trivial⟩ ⟨rfl, hu⟩ ?_
  rintro ⟨k, x⟩ Γ junk ⟨rfl, hu⟩
  dsimp only at hu ⊢
  cases k with
  | zero =>
    obtain ⟨rfl, hx, hy⟩ := hu
    obtain ⟨bb, off, cc, TT, fr, rfl, hm, hr⟩ := r1.at hy
    have hlt := (List.getElem?_eq_some_iff.1 hy).1
    repeat' (first | refine zck ?_ | refine zcp (by kernel_rfl) ?_ | (refine zap rfl ?_; first | refine zad rfl (fun hF Γ w h1 h2 => hm hF Γ w (fun p hp => h1 p (.tail _ hp)) h2) (hr _ (by omega)) ?_ | ((with_reducible refine zcu ?_); refine zan rfl ?_) | ((with_reducible refine zcw ?_); refine zaa 0 rfl rfl rfl ?_) | ((with_reducible refine zcy ?_); refine zao rfl ?_) | ((with_reducible refine zda ?_); first | refine zbf rfl rfl (by omega) ?_ | refine zav rfl rfl (by omega) ?_) | ((with_reducible refine zdf ?_); refine zas rfl rfl (by omega) ?_)) | refine zch ?_ | refine zcj rfl ?_)
    refine cut_exit rfl rfl ?_
    repeat' (first | refine zck ?_ | refine zcp (by kernel_rfl) ?_ | (refine zap rfl ?_; first | ((with_reducible refine zcu ?_); refine zan rfl ?_) | ((with_reducible refine zcv ?_); refine zan rfl ?_)) | refine zch ?_)
    exact ret_tmp1 rfl ⟨rfl, rfl⟩
  | succ k =>
    obtain ⟨hx, y, hy, hne, hu⟩ := hu
    obtain ⟨bb, off, cc, TT, fr, rfl, hm, hr⟩ := r1.at hy
    have hlt := (List.getElem?_eq_some_iff.1 hy).1
    repeat' (first | refine zck ?_ | refine zcp (by kernel_rfl) ?_ | refine zcm ?_ | refine zcl ?_ | refine zcn ?_ | (refine zap rfl ?_; first | refine zad rfl (fun hF Γ w h1 h2 => hm hF Γ w (fun p hp => h1 p (.tail _ hp)) h2) (hr _ (by omega)) ?_ | ((with_reducible refine zcu ?_); refine zan rfl ?_) | ((with_reducible refine zcv ?_); refine zan rfl ?_) | ((with_reducible refine zcw ?_); refine zaa 0 rfl rfl rfl ?_) | ((with_reducible refine zcy ?_); refine zao rfl ?_) | ((with_reducible refine zda ?_); first | refine zbe rfl rfl (by omega) ?_ | refine zav rfl rfl (by omega) ?_) | ((with_reducible refine zdf ?_); refine zas rfl rfl (by omega) ?_)) | refine zch ?_ | refine zci rfl ?_)
    exact cut_end ⟨rfl, (k, y), ⟨rfl, rfl, trivial⟩, ⟨rfl, hu⟩, Nat.lt_succ_self _⟩
end
end Go.Proofs.Ytpcnbaddkblbhaa

