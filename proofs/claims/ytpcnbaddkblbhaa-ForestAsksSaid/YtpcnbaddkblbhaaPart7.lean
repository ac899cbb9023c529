import Derived.Test.YtpcnbaddkblbhaaKit
import Derived.Test.YtpcnbaddkblbhaaPart3
import Derived.Test.YtpcnbaddkblbhaaPart5
import Derived.Test.YtpcnbaddkblbhaaPart6
/- Lemmas and walks for the claims of this seat (own work): Nw0 Nw2 Fa3 Fa4 Cp0 Ws0 Fo1. -/
/- Words, and the views of them: plain facts. -/
namespace Sim
open Go Go.Vc
def wk : Nat → List Int → List (Int × Wd)
  | _, [] => []
  | i, v :: r => ((i : Int), ⟨v, 0, 0⟩) :: wk (i + 1) r
theorem wk_length : ∀ (i : Nat) (l : List Int), (wk i l).length = l.length
  | _, [] => rfl
  | i, v :: r => by simp [wk, wk_length (i + 1) r]
theorem wk_get : ∀ (i : Nat) (l : List Int) (q : Nat), (wk i l)[q]? = (l[q]?).map fun v => (((i + q : Nat) : Int), ⟨v, 0, 0⟩)
  | _, [], q => by simp [wk]
  | i, v :: r, 0 => by simp [wk]
  | i, v :: r, q + 1 => by
    simp only [wk, List.getElem?_cons_succ, wk_get (i + 1) r q]
    congr 1; funext v; congr 2; omega
theorem wk_snoc : ∀ (i : Nat) (l : List Int) (v : Int), wk i (l ++ [v]) = wk i l ++ [(((i + l.length : Nat) : Int), ⟨v, 0, 0⟩)]
  | i, [], v => by simp [wk]
  | i, u :: r, v => by
    simp only [List.cons_append, wk, wk_snoc (i + 1) r v, List.length_cons]
    congr 4; omega
theorem lookW_wk : ∀ (i : Nat) (l : List Int) (a : Int), lookW (wk i l) a = if (i : Int) ≤ a ∧ a < i + l.length then (l[(a - i).toNat]?).map fun v => ⟨v, 0, 0⟩ else none
  | i, [], a => by simp [wk, lookW]
  | i, v :: r, a => by
    simp only [wk, lookW, lookW_wk (i + 1) r a]
    by_cases h : (i : Int) = a
    · subst h; simp; omega
    · rw [if_neg h]
      by_cases h2 : (i : Int) ≤ a ∧ a < i + ((v :: r).length : Nat)
      · rw [if_pos h2, if_pos (by simp only [List.length_cons] at h2; omega)]
        obtain ⟨k, hk⟩ : ∃ k : Nat, a = i + 1 + k := ⟨(a - i - 1).toNat, by omega⟩
        subst hk
        have e1 : ((i : Int) + 1 + k - ((i + 1 : Nat) : Int)).toNat = k := by omega
        have e2 : ((i : Int) + 1 + k - (i : Int)).toNat = k + 1 := by omega
        rw [e1, e2]; rfl
      · rw [if_neg h2, if_neg (by simp only [List.length_cons] at h2; omega)]
def insW : List (Int × Wd) → Int → Wd → List (Int × Wd)
  | [], x, u => [(x, u)]
  | (a, w) :: r, x, u => if a = x then (a, u) :: r else (a, w) :: insW r x u
theorem ins_knM : ∀ (l : List (Int × Wd)) (a : Int) (w : Wd), ins (knM l) a (wordV w) = knM (insW l a w)
  | [], _, _ => rfl
  | (b, u) :: r, a, w => by
    simp only [knM, ins, insW]
    by_cases h : b = a <;> simp [h, knM, ins_knM r a w]
theorem look_insW : ∀ (l : List (Int × Wd)) (a x : Int) (w : Wd), lookW (insW l a w) x = if a = x then some w else lookW l x
  | [], a, x, w => by simp [insW, lookW]
  | (b, u) :: r, a, x, w => by
    simp only [insW]
    by_cases h : b = a
    · subst h; by_cases h2 : b = x <;> simp [lookW, h2]
    · simp only [if_neg h, lookW, look_insW r a x w]
      by_cases h2 : b = x
      · subst h2; simp [Ne.symm h]
      · simp [h2]
theorem insW_none : ∀ (l : List (Int × Wd)) (a : Int) (w : Wd), lookW l a = none → insW l a w = l ++ [(a, w)]
  | [], _, _, _ => rfl
  | (b, u) :: r, a, w, h => by
    simp only [lookW] at h
    split at h
    · cases h
    · rename_i hb
      simp [insW, hb, insW_none r a w h]
theorem knM_length : ∀ (l : List (Int × Wd)), (knM l).length = l.length
  | [] => rfl
  | (_, _) :: r => by simp [knM, knM_length r]
theorem knM_get : ∀ (l : List (Int × Wd)) (q : Nat), (knM l)[q]? = (l[q]?).map fun p => (p.1, wordV p.2)
  | [], q => by simp [knM]
  | (a, w) :: r, 0 => by simp [knM]
  | (a, w) :: r, q + 1 => by simp only [knM, List.getElem?_cons_succ, knM_get r q]
theorem lookW_mem : ∀ (l : List (Int × Wd)) (a : Int) (w : Wd), lookW l a = some w → ∃ q : Nat, l[q]? = some (a, w)
  | [], a, w, h => by simp [lookW] at h
  | (b, u) :: r, a, w, h => by
    simp only [lookW] at h
    split at h
    · rename_i hb; subst hb; cases h; exact ⟨0, rfl⟩
    · obtain ⟨q, hq⟩ := lookW_mem r a w h; exact ⟨q + 1, hq⟩
end Sim

/- The walk of space.New. -/
namespace Go.Proofs.Ytpcnbaddkblbhaa
open Go.Vc Sim
set_option maxHeartbeats 4000000

def cnt : Nat → List Nat → Nat
  | 0, _ => 0
  | n + 1, s => cnt n s + if n ∈ s then 0 else 1
theorem cnt_more (q : Nat) (s : List Nat) (hs : q ∉ s) : ∀ n, (n ≤ q → cnt n (s ++ [q]) = cnt n s) ∧ (q < n → cnt n (s ++ [q]) + 1 = cnt n s)
  | 0 => ⟨fun _ => rfl, fun h => absurd h (by omega)⟩
  | n + 1 => by
    obtain ⟨h1, h2⟩ := cnt_more q s hs n
    simp only [cnt]
    refine ⟨fun h => ?_, fun h => ?_⟩
    · have hne : n ≠ q := by omega
      rw [h1 (by omega)]; simp [hne]
    · by_cases e : q = n
      · subst e; rw [h1 (Nat.le_refl _)]; simp [hs]
      · have := h2 (by omega)
        have e2 : (n ∈ s ++ [q]) = (n ∈ s) := by simp; intro h; omega
        simp only [e2]; omega

theorem new_spec (w0 : World) (kb : Nat) (kn : List (Int × Wd)) (hkn : ∀ (q : Nat) a w, kn[q]? = some (a, w) → lookW kn a = some w ∧ w.ref = 0) :
    Vc.Fn PP w0 [] 29 [.map (some kb)] [pt kb (mapI (knM kn))]
      (fun v Γ => ∃ p kn', v = spP p ∧ Γ = [SpaceA p ⟨kn', [], [], 0, false⟩] ∧ ∀ a, lookW kn' a = lookW kn a) := by
  refine fn_of_run en29 fn29 rfl rfl rfl ?_
  repeat (first | refine zck ?_ | refine zcl ?_ | refine zcm ?_ | refine zcn ?_)
  first | refine zcp (by kernel_rfl) ?_ | refine zcq PP_mixed (by kernel_rfl) (by kernel_rfl) ?_
  repeat' (refine zap rfl ?_; first | ((with_reducible refine zcv ?_); refine zan rfl ?_))
  all_goals refine zch ?_
  all_goals repeat (first | refine zck ?_ | refine zcl ?_ | refine zcm ?_ | refine zcn ?_)
  repeat (first | refine zck ?_ | refine zcl ?_ | refine zcm ?_ | refine zcn ?_)
  first | refine zcp (by kernel_rfl) ?_ | refine zcq PP_mixed (by kernel_rfl) (by kernel_rfl) ?_
  repeat' (refine zap rfl ?_; first | ((with_reducible refine zcv ?_); refine zan rfl ?_) | ((with_reducible refine zdg ?_); refine zaq (cs := [_, _, _, _, _]) rfl (fun nb => ?_)) | refine zcc (fun nb => ?_) | refine zcb rfl ?_)
  all_goals refine zch ?_
  all_goals repeat (first | refine zck ?_ | refine zcl ?_ | refine zcm ?_ | refine zcn ?_)
  rename_i m1 m2
  revert nb; intro p
  refine run_share_keep [3] rfl ?_
  repeat (first | refine zck ?_ | refine zcl ?_ | refine zcm ?_ | refine zcn ?_)
  first | refine zcp (by kernel_rfl) ?_ | refine zcq PP_mixed (by kernel_rfl) (by kernel_rfl) ?_
  repeat' (refine zap rfl ?_; first | refine reg_range 0 rfl rfl (fun nb => ?_) | ((with_reducible refine zcu ?_); refine zan rfl ?_))
  all_goals refine zch ?_
  all_goals repeat (first | refine zck ?_ | refine zcl ?_ | refine zcm ?_ | refine zcn ?_)
  revert nb; intro it
  refine run_loop (S := List (Int × Wd) × List Nat) (fun _ => [(3, spP p), (11, .pointer (some ⟨it, 0, none⟩))])
    (fun st Γ => Γ = [pt kb (mapI (knM kn)), pt m1 (mapI (knM st.1)), pt m2 (mapI []), pt it (iterI kb (knM kn).length st.2 (knM kn).length)] ∧ (∀ q ∈ st.2, ∀ a w, kn[q]? = some (a, w) → lookW st.1 a = some w) ∧ (∀ a w, lookW st.1 a = some w → lookW kn a = some w))
    (fun st => cnt kn.length st.2) ([], []) ⟨rfl, rfl, trivial⟩ ⟨rfl, by simp, by simp [lookW]⟩ ?_
  rintro ⟨kn', seen⟩ Γ junk ⟨rfl, h1, h2⟩
  dsimp only at h1 h2 ⊢
  repeat (first | refine zck ?_ | refine zcl ?_ | refine zcm ?_ | refine zcn ?_ | refine zco ?_)
  refine zcp (by kernel_rfl) ?_
  refine zap rfl ?_
  refine reg_next 3 0 rfl rfl (pt_know 0 rfl) rfl (fun _ => rfl) (fun hall => ?_) (fun q e hq hns => ?_)
  · repeat' (first | refine zck ?_ | (refine zap rfl ?_; first | ((with_reducible refine zcz ?_); refine zan rfl ?_)) | refine zch ?_ | refine zcj rfl ?_)
    refine cut_exit rfl rfl ?_
    repeat' (first | refine zck ?_ | refine zcp (by kernel_rfl) ?_ | (refine zap rfl ?_; first | ((with_reducible refine zcu ?_); refine zan rfl ?_) | ((with_reducible refine zcv ?_); refine zan rfl ?_)) | refine zch ?_)
    refine run_nilslice 104 2 ?_
    refine run_ret (leaves_nil (ends_close1 (A := SpaceA p ⟨kn', [], [], 0, false⟩) [5, 1, 1, 2] rfl (fun _ h => ⟨(m1, m2, none, 0), h⟩) (ends_one rfl rfl ⟨rfl, p, kn', rfl, rfl, fun a => ?_⟩)))
    cases hk : lookW kn a with
    | none =>
      cases hk' : lookW kn' a with
      | none => rfl
      | some w => have := h2 a w hk'; rw [hk] at this; cases this
    | some w =>
      obtain ⟨q, hq⟩ := lookW_mem kn a w hk
      have hql := (List.getElem?_eq_some_iff.1 hq).1
      exact h1 q (hall q (by rw [knM_length]; exact hql)) a w hq
  · rw [knM_get] at hq
    obtain ⟨⟨a, w⟩, hq2, rfl⟩ : ∃ aw, kn[q]? = some aw ∧ e = (aw.1, wordV aw.2) := by
      cases h : kn[q]? with
      | none => rw [h] at hq; cases hq
      | some aw => rw [h] at hq; exact ⟨aw, rfl, (Option.some.inj hq).symm⟩
    obtain ⟨hk1, hk2⟩ := hkn q a w hq2
    have hql := (List.getElem?_eq_some_iff.1 hq2).1
    have hq3 : (knM kn)[q]? = some (a, wordV w) := by rw [knM_get, hq2]; rfl
    repeat' (refine zap rfl ?_; first | ((with_reducible refine zcz ?_); refine zan rfl ?_))
    refine zch ?_
    repeat (first | refine zck ?_ | refine zcl ?_ | refine zcm ?_ | refine zcn ?_ | refine zco ?_)
    refine zci rfl ?_
    repeat (first | refine zck ?_ | refine zcl ?_ | refine zcm ?_ | refine zcn ?_ | refine zco ?_)
    repeat (first | refine zck ?_ | refine zcl ?_ | refine zcm ?_ | refine zcn ?_)
    first | refine zcp (by kernel_rfl) ?_ | refine zcq PP_mixed (by kernel_rfl) (by kernel_rfl) ?_
    repeat' (refine zap rfl ?_; first | refine reg_entry 3 rfl rfl (pt_know 0 rfl) hq3 ?_ | ((with_reducible refine zcv ?_); refine zan rfl ?_) | ((with_reducible refine zcz ?_); refine zan rfl ?_) | ((with_reducible refine zdd ?_); refine zae 4 rfl rfl rfl rfl rfl rfl rfl ?_) | ((with_reducible refine zdh ?_); refine zar (fun nb => ?_)))
    all_goals refine zch ?_
    all_goals repeat (first | refine zck ?_ | refine zcl ?_ | refine zcm ?_ | refine zcn ?_)
    refine run_share [4] rfl ?_
    repeat (first | refine zck ?_ | refine zcl ?_ | refine zcm ?_ | refine zcn ?_)
    first | refine zcp (by kernel_rfl) ?_ | refine zcq PP_mixed (by kernel_rfl) (by kernel_rfl) ?_
    repeat' (refine zap rfl ?_; first | ((with_reducible refine zcw ?_); refine zaa 0 rfl rfl rfl ?_) | ((with_reducible refine zcy ?_); refine zao rfl ?_) | ((with_reducible refine zda ?_); refine zbo rfl rfl ?_))
    all_goals refine zch ?_
    all_goals repeat (first | refine zck ?_ | refine zcl ?_ | refine zcm ?_ | refine zcn ?_)
    refine zci (bool_eq (decide_eq_true hk2)) ?_
    repeat' (first | refine zcq PP_mixed (by kernel_rfl) (by kernel_rfl) ?_ | refine zcn ?_ | (refine zap rfl ?_; first | refine reg_mapUpdate 1 rfl rfl rfl rfl rfl ?_ | ((with_reducible refine zcu ?_); refine zan rfl ?_) | ((with_reducible refine zcw ?_); first | refine zaa 0 rfl rfl rfl ?_ | refine zaa 1 rfl rfl rfl ?_) | ((with_reducible refine zcy ?_); refine zao rfl ?_) | ((with_reducible refine zde ?_); refine zan rfl ?_)) | refine zch ?_)
    refine cut_end ⟨rfl, (insW kn' a w, seen ++ [q]), ⟨rfl, rfl, trivial⟩, ⟨?_, ?_, ?_⟩, ?_⟩
    · show _ = [_, pt m1 (mapI (knM (insW kn' a w))), _, _]
      rw [← ins_knM]; rfl
    · intro q' hq' a' w' h
      rw [look_insW]
      rcases List.mem_append.1 hq' with hq' | hq'
      · have := h1 q' hq' a' w' h
        by_cases e : a = a'
        · subst e; rw [if_pos rfl]
          have := (hkn q' a w' h).1
          rw [hk1] at this; exact this
        · rw [if_neg e]; exact this
      · simp at hq'; subst hq'
        rw [hq2] at h; cases h; rw [if_pos rfl]
    · intro a' w' h
      rw [look_insW] at h
      by_cases e : a = a'
      · subst e; rw [if_pos rfl] at h; cases h; exact hk1
      · rw [if_neg e] at h; exact h2 a' w' h
    · have := (cnt_more q seen hns kn.length).2 hql
      dsimp only; omega
end Go.Proofs.Ytpcnbaddkblbhaa

/- Space.Reads. -/
namespace Go.Proofs.Ytpcnbaddkblbhaa
open Go.Vc Sim
theorem rdM_len : ∀ l : List Int, (rdM l).length = l.length
  | [] => rfl
  | _ :: l => by simp only [rdM, List.length_cons, rdM_len l]
theorem rdM_at : ∀ (l : List Int) (q : Nat), (rdM l)[q]? = (l[q]?).map fun a => (a, .bool true)
  | [], q => by simp [rdM]
  | a :: l, 0 => by simp [rdM]
  | a :: l, q + 1 => by simp only [rdM, List.getElem?_cons_succ, rdM_at l q]
def leI : Int → Int → Bool := fun x y => decide (x ≤ y)
theorem msort_perm {l l' : List Int} (h : l.Perm l') : l.mergeSort leI = l'.mergeSort leI := by
  have tr : ∀ a b c : Int, leI a b = true → leI b c = true → leI a c = true := fun a b c h1 h2 => by simp only [leI, decide_eq_true_eq] at *; omega
  have to : ∀ a b : Int, (leI a b || leI b a) = true := fun a b => by simp only [leI, Bool.or_eq_true, decide_eq_true_eq]; omega
  refine List.Perm.eq_of_pairwise (le := fun a b => leI a b = true) (fun a b _ _ h1 h2 => ?_) (List.pairwise_mergeSort tr to l) (List.pairwise_mergeSort tr to l') (((List.mergeSort_perm l leI).trans h).trans (List.mergeSort_perm l' leI).symm)
  simp only [leI, decide_eq_true_eq] at h1 h2
  omega
theorem seen_perm (l : List Int) (seen : List Nat) (out : List Int) (hnd : seen.Nodup) (hlt : ∀ q ∈ seen, q < l.length) (hall : ∀ q, q < l.length → q ∈ seen) (ho : out = seen.map fun q => l[q]!) : out.Perm l := by
  have h1 : seen.Perm (List.range l.length) := by
    rw [List.perm_ext_iff_of_nodup hnd List.nodup_range]
    intro q; rw [List.mem_range]; exact ⟨hlt q, hall q⟩
  have h2 : (List.range l.length).map (fun q => l[q]!) = l := by
    apply List.ext_getElem?
    intro i
    by_cases hi : i < l.length
    · simp [hi]
    · simp [hi]
  rw [ho]
  exact (h1.map _).trans (List.Perm.of_eq h2)
theorem cnt_nil : ∀ n, cnt n [] = n
  | 0 => rfl
  | n + 1 => by simp [cnt, cnt_nil n]
theorem cnt_all (s : List Nat) : ∀ n, (∀ q, q < n → q ∈ s) → cnt n s = 0
  | 0, _ => rfl
  | n + 1, h => by simp only [cnt, cnt_all s n (fun q hq => h q (by omega)), if_pos (h n (by omega))]
theorem rds_spec (w0 : World) (p : Nat) (s : Sp) (hlen : s.rd.length < 65536) :
    Vc.Fn PP w0 [] 30 [spP p] [SpaceA p s] fun v Γ => ∃ a cap, v = .slice a s.rd.length cap ∧ Γ = [SpaceA p s, SlA 27 1 a s.rd.length cap (intsV (s.rd.mergeSort leI))] := by
  refine fn_of_run en30 fn30 rfl rfl rfl ?_
  refine run_open [0] (SpaceParts p s) rfl (fun _ h => h) ?_
  rintro ⟨bk, br, sa, sc⟩
  refine run_nilslice 27 1 ?_
  repeat (first | refine zck ?_ | refine zcl ?_ | refine zcm ?_ | refine zcn ?_)
  first | refine zcp (by kernel_rfl) ?_ | refine zcq PP_mixed (by kernel_rfl) (by kernel_rfl) ?_
  repeat' (refine zap rfl ?_; first | ((with_reducible refine zcv ?_); refine zan rfl ?_))
  all_goals refine zch ?_
  all_goals repeat (first | refine zck ?_ | refine zcl ?_ | refine zcm ?_ | refine zcn ?_)
  repeat (first | refine zck ?_ | refine zcl ?_ | refine zcm ?_ | refine zcn ?_)
  first | refine zcp (by kernel_rfl) ?_ | refine zcq PP_mixed (by kernel_rfl) (by kernel_rfl) ?_
  repeat' (refine zap rfl ?_; first | ((with_reducible refine zcv ?_); refine zan rfl ?_))
  all_goals refine zch ?_
  all_goals repeat (first | refine zck ?_ | refine zcl ?_ | refine zcm ?_ | refine zcn ?_)
  repeat (first | refine zck ?_ | refine zcl ?_ | refine zcm ?_ | refine zcn ?_)
  first | refine zcp (by kernel_rfl) ?_ | refine zcq PP_mixed (by kernel_rfl) (by kernel_rfl) ?_
  repeat' (refine zap rfl ?_; first | ((with_reducible refine zcu ?_); refine zan rfl ?_) | ((with_reducible refine zda ?_); refine zaz rfl rfl ?_))
  all_goals refine zch ?_
  all_goals repeat (first | refine zck ?_ | refine zcl ?_ | refine zcm ?_ | refine zcn ?_)
  refine zcj rfl ?_
  refine zcm ?_
  repeat (first | refine zck ?_ | refine zcl ?_ | refine zcm ?_ | refine zcn ?_)
  first | refine zcp (by kernel_rfl) ?_ | refine zcq PP_mixed (by kernel_rfl) (by kernel_rfl) ?_
  repeat' (refine zap rfl ?_; first | refine reg_range 2 rfl rfl (fun nb => ?_) | ((with_reducible refine zcu ?_); refine zan rfl ?_) | ((with_reducible refine zcw ?_); refine zab 0 rfl rfl rfl ?_) | ((with_reducible refine zcy ?_); refine zao rfl ?_) | ((with_reducible refine zde ?_); refine zan rfl ?_))
  all_goals refine zch ?_
  all_goals repeat (first | refine zck ?_ | refine zcl ?_ | refine zcm ?_ | refine zcn ?_)
  refine run_loop (S := Option Addr × Nat × List Nat) (fun st => [(3, .slice st.1 st.2.2.length st.2.1), (12, .pointer (some ⟨nb, 0, none⟩))])
    (fun st Γ => Γ = SpaceParts p s (bk, br, sa, sc) ++ [SlA 27 1 st.1 st.2.2.length st.2.1 (intsV (st.2.2.map fun q => s.rd[q]!)), pt nb (iterI br (rdM s.rd).length st.2.2 (rdM s.rd).length)] ∧ st.2.2.Nodup ∧ (∀ q ∈ st.2.2, q < s.rd.length) ∧ cnt s.rd.length st.2.2 + st.2.2.length = s.rd.length)
    (fun st => cnt s.rd.length st.2.2) (none, 0, []) ⟨rfl, rfl, trivial⟩ ⟨rfl, List.nodup_nil, by simp, by simp [cnt_nil]⟩ ?_
  rintro ⟨a, cap, seen⟩ Γ junk ⟨rfl, h1, h2, h3⟩
  dsimp only at h1 h2 h3 ⊢
  repeat (first | refine zck ?_ | refine zcl ?_ | refine zcm ?_ | refine zcn ?_ | refine zco ?_)
  refine zcp (by kernel_rfl) ?_
  refine zap rfl ?_
  refine reg_next 5 2 rfl rfl (pt_know 2 rfl) rfl (fun _ => rfl) (fun hall => ?_) (fun q e hq hns => ?_)
  · repeat' (first | refine zck ?_ | (refine zap rfl ?_; first | ((with_reducible refine zcz ?_); refine zan rfl ?_)) | refine zch ?_ | refine zcj rfl ?_)
    refine cut_exit rfl rfl ?_
    have hn : seen.length = s.rd.length := by
      rw [rdM_len] at hall
      have := cnt_all seen s.rd.length hall
      omega
    have hperm := seen_perm s.rd seen _ h1 h2 (by rw [rdM_len] at hall; exact hall) rfl
    have hS := sort_spec w0 a s.rd.length cap (seen.map fun q => s.rd[q]!) hlen (by rw [List.length_map, hn])
    rw [hn]
    repeat' (first | refine zck ?_ | refine zcp (by kernel_rfl) ?_ | (refine zap rfl ?_; first | ((with_reducible refine zcu ?_); refine zan rfl ?_) | ((with_reducible refine zcv ?_); refine zan rfl ?_) | ((with_reducible refine zcx ?_); refine zah [4] hS rfl rfl rfl sub_nil rfl ?_)) | refine zch ?_)
    refine run_close (A := SpaceA p s) [1, 1, 1, 1] rfl (fun _ h => ⟨(bk, br, sa, sc), h⟩) ?_
    refine run_take [0, 0] rfl ?_
    refine ret_tmp1 rfl ⟨a, cap, rfl, ?_⟩
    rw [← msort_perm hperm]; rfl
  · rw [rdM_at] at hq
    obtain ⟨x, hx, rfl⟩ : ∃ x, s.rd[q]? = some x ∧ e = (x, .bool true) := by
      cases h : s.rd[q]? with
      | none => rw [h] at hq; cases hq
      | some x => rw [h] at hq; exact ⟨x, rfl, (Option.some.inj hq).symm⟩
    have hql := (List.getElem?_eq_some_iff.1 hx).1
    have hq3 : (rdM s.rd)[q]? = some (x, .bool true) := by rw [rdM_at, hx]; rfl
    repeat' (refine zap rfl ?_; first | ((with_reducible refine zcz ?_); refine zan rfl ?_))
    refine zch ?_
    repeat (first | refine zck ?_ | refine zcl ?_ | refine zcm ?_ | refine zcn ?_ | refine zco ?_)
    refine zci rfl ?_
    repeat (first | refine zck ?_ | refine zcl ?_ | refine zcm ?_ | refine zcn ?_ | refine zco ?_)
    repeat (first | refine zck ?_ | refine zcl ?_ | refine zcm ?_ | refine zcn ?_)
    first | refine zcp (by kernel_rfl) ?_ | refine zcq PP_mixed (by kernel_rfl) (by kernel_rfl) ?_
    repeat' (refine zap rfl ?_; first | refine reg_entry 5 rfl rfl (pt_know 2 rfl) hq3 ?_ | ((with_reducible refine zcv ?_); refine zan rfl ?_) | ((with_reducible refine zcz ?_); refine zan rfl ?_))
    all_goals refine zch ?_
    all_goals repeat (first | refine zck ?_ | refine zcl ?_ | refine zcm ?_ | refine zcn ?_)
    repeat' (first | refine zcp (by kernel_rfl) ?_ | refine zcn ?_ | (refine zap rfl ?_; first | refine reg_buildSlice rfl rfl rfl rfl rfl rfl (fun nb => ?_) | refine reg_append 4 6 rfl rfl rfl rfl rfl rfl rfl rfl (by omega) (fun _ _ => rfl) (fun a' cap' => ?_) | ((with_reducible refine zcu ?_); refine zan rfl ?_) | ((with_reducible refine zcv ?_); refine zan rfl ?_)) | refine zch ?_)
    refine run_take [0, 0, 0, 0, 0, 0] rfl ?_
    have hx2 : s.rd[q]! = x := by simp [List.getElem!_eq_getElem?_getD, hx]
    have e1 : (seen ++ [q]).length = seen.length + 1 := by simp
    have e2 : intsV ((seen ++ [q]).map fun q => s.rd[q]!) = intsV (seen.map fun q => s.rd[q]!) ++ [.int .i64 x] := by simp only [intsV, List.map_append, List.map_cons, List.map_nil, hx2]
    have e3 := (cnt_more q seen hns s.rd.length).2 hql
    refine cut_end ⟨rfl, (a', cap', seen ++ [q]), ⟨by dsimp only; rw [e1]; rfl, rfl, trivial⟩, ⟨?_, ?_, ?_, by dsimp only; omega⟩, by dsimp only; omega⟩
    · dsimp only; rw [e1, e2]; rfl
    · dsimp only
      rw [List.nodup_append]
      exact ⟨h1, by simp, by intro a ha b hb; simp at hb; subst hb; intro e; subst e; exact hns ha⟩
    · intro q' hq'
      rcases List.mem_append.1 hq' with h | h
      · exact h2 q' h
      · simp at h; subst h; exact hql
end Go.Proofs.Ytpcnbaddkblbhaa

/- Space.Entries. -/
namespace Go.Proofs.Ytpcnbaddkblbhaa
open Go.Vc Sim
theorem ints_rd {l : List Int} {i : Nat} {x : Int} (h : l[i]? = some x) (o : Nat) (ho : o = i) : rd false 1 (intsV l) o = some (.int .i64 x) :=
  rd_one (c := (intsV l).toArray) (o := i) (by simp [intsV, h]) o ho
theorem flatE_append : ∀ a b : List En, flatE (a ++ b) = flatE a ++ flatE b
  | [], _ => rfl
  | e :: a, b => by simp only [List.cons_append, flatE, flatE_append a b, List.append_assoc]
def oldW (s : Sp) (x : Int) : Wd := match lookW s.kn x with | some w => w | none => ⟨0, 0, 0⟩
def entE (s : Sp) (x : Int) : En := ⟨x, oldW s x, (s.value x).1, (s.value x).2⟩
def esOf (s : Sp) : List En := (s.rd.mergeSort leI).map (entE s)
def Sp.entries (s : Sp) : List En × Int :=
  if s.ended = true then ([], 13) else if (esOf s).length = 0 then ([], 0) else if checkI (esOf s) ≠ 0 then ([], checkI (esOf s)) else (esOf s, 0)
set_option maxHeartbeats 4000000
theorem ents_spec (w0 : World) (p : Nat) (s : Sp) (hlen : s.rd.length < 65536) (hp : s.puts.length ≤ 1099511627776) (hk : ∀ x w, lookW s.kn x = some w → w.ref = 0) :
    Vc.Fn PP w0 [] 40 [spP p] [SpaceA p s] fun v Γ => ∃ a cap, v = .tuple #[.slice a (Sp.entries s).1.length cap, .int .i64 (Sp.entries s).2] ∧ Γ = [SpaceA p s, EnA a cap (Sp.entries s).1] := by
  refine fn_of_run en40 fn40 rfl rfl rfl ?_
  unfold Sp.entries
  repeat' (first | refine zck ?_ | refine zcp (by kernel_rfl) ?_ | (refine zap rfl ?_; first | ((with_reducible refine zcu ?_); refine zan rfl ?_) | ((with_reducible refine zcv ?_); refine zan rfl ?_) | ((with_reducible refine zcx ?_); refine zah [0] (ended_spec w0 p s) rfl rfl rfl sub_nil rfl ?_)) | refine zch ?_)
  refine run_condV rfl (fun hE => ?_) (fun hE => ?_)
  · rw [if_pos hE]
    repeat' (first | refine zck ?_ | refine zcp (by kernel_rfl) ?_ | (refine zap rfl ?_; first | ((with_reducible refine zcv ?_); refine zan rfl ?_)) | refine zch ?_)
    refine run_nilslice 81 6 ?_
    exact ret_tmp2 rfl ⟨none, 0, rfl, rfl⟩
  · rw [if_neg (by rw [hE]; exact Bool.false_ne_true)]
    obtain ⟨L, hL⟩ : ∃ L, L = s.rd.mergeSort leI := ⟨_, rfl⟩
    obtain ⟨es, hes⟩ : ∃ es, es = esOf s := ⟨_, rfl⟩
    have hLn : L.length = s.rd.length := by rw [hL, List.length_mergeSort]
    have hen : es.length = s.rd.length := by rw [hes, esOf, List.length_map, ← hL, hLn]
    have heL : es = L.map (entE s) := by rw [hes, esOf, hL]
    have her : ∀ e ∈ es, e.old.ref = 0 := by
      intro e he
      rw [heL] at he
      obtain ⟨x, _, rfl⟩ := List.mem_map.1 he
      show (oldW s x).ref = 0
      unfold oldW
      cases h : lookW s.kn x with
      | none => rfl
      | some w => exact hk x w h
    rw [← hes]
    refine run_nilslice 81 6 ?_
    repeat (first | refine zck ?_ | refine zcl ?_ | refine zcm ?_ | refine zcn ?_)
    first | refine zcp (by kernel_rfl) ?_ | refine zcq PP_mixed (by kernel_rfl) (by kernel_rfl) ?_
    repeat' (refine zap rfl ?_; first | ((with_reducible refine zcv ?_); refine zan rfl ?_))
    all_goals refine zch ?_
    all_goals repeat (first | refine zck ?_ | refine zcl ?_ | refine zcm ?_ | refine zcn ?_)
    have hRd := rds_spec w0 p s hlen
    rw [← hL, ← hLn] at hRd
    repeat (first | refine zck ?_ | refine zcl ?_ | refine zcm ?_ | refine zcn ?_)
    first | refine zcp (by kernel_rfl) ?_ | refine zcq PP_mixed (by kernel_rfl) (by kernel_rfl) ?_
    repeat' (refine zap rfl ?_; first | (refine zai [0] hRd rfl rfl rfl sub_nil ?_; rintro v Γ' ⟨ra, rcap, rfl, rfl⟩) | ((with_reducible refine zcu ?_); refine zan rfl ?_) | ((with_reducible refine zcx ?_); refine zce rfl ?_))
    all_goals refine zch ?_
    all_goals repeat (refine zck ?_)
    refine run_perm (Γ' := [SpaceA p s, SlA 27 1 ra L.length rcap (intsV L), EnA none 0 []]) (List.Perm.refl _) ?_
    refine run_bind_eq2 (Γ' := fun st : Option Addr × Nat => [SpaceA p s, SlA 27 1 ra L.length rcap (intsV L), EnA st.1 st.2 es]) (l' := fun st => [(0, spP p), (4, .slice st.1 es.length st.2)]) ?_ (fun st junk => ?_)
    · refine zcl ?_
      refine run_loop (S := Option Addr × Nat × Nat) (fun st => [(0, spP p), (4, .slice st.1 (es.take st.2.2).length st.2.1), (13, .slice ra L.length rcap), (14, .int .i64 L.length), (15, .int .i64 st.2.2)])
        (fun st Γ => Γ = [SpaceA p s, SlA 27 1 ra L.length rcap (intsV L), EnA st.1 st.2.1 (es.take st.2.2)] ∧ st.2.2 ≤ es.length)
        (fun st => es.length - st.2.2) (none, 0, 0) ⟨rfl, rfl, rfl, rfl, rfl, trivial⟩ ⟨rfl, by dsimp only; omega⟩ ?_
      rintro ⟨a, cap, j⟩ Γ junk ⟨rfl, g1⟩
      dsimp only at g1 ⊢
      by_cases hj : j < es.length
      · obtain ⟨x, hx⟩ : ∃ x, L[j]? = some x := ⟨_, List.getElem?_eq_getElem (by omega)⟩
        have hex : es[j]? = some (entE s x) := by rw [heL, List.getElem?_map, hx]; rfl
        have hr := ints_rd hx
        have hlt : (es.take j).length = j := by simp; omega
        refine run_sl_cases 1 rfl (fun _ h _ _ => absurd h (by omega)) ?_
        intro bb k1 k2 k3
        subst k1
        have hw : (Vc.look (knM s.kn) x).getD (.agg #[.int .i64 0, .int .u32 0, .int .u32 0]) = .agg #[.int .i64 (oldW s x).val, .int .u32 (oldW s x).ver, .int .u32 (oldW s x).ref] := by
          rw [look_knM]
          unfold oldW
          cases lookW s.kn x with
          | none => rfl
          | some w => rfl
        repeat (first | refine zck ?_ | refine zcl ?_ | refine zcm ?_ | refine zcn ?_)
        first | refine zcp (by kernel_rfl) ?_ | refine zcq PP_mixed (by kernel_rfl) (by kernel_rfl) ?_
        repeat' (refine zap rfl ?_; first | ((with_reducible refine zda ?_); refine zbg rfl rfl (by omega) ?_))
        all_goals refine zch ?_
        all_goals repeat (first | refine zck ?_ | refine zcl ?_ | refine zcm ?_ | refine zcn ?_)
        refine zci rfl ?_
        repeat (first | refine zcm ?_ | refine zcl ?_ | refine zck ?_)
        repeat (first | refine zck ?_ | refine zcl ?_ | refine zcm ?_ | refine zcn ?_)
        first | refine zcp (by kernel_rfl) ?_ | refine zcq PP_mixed (by kernel_rfl) (by kernel_rfl) ?_
        repeat' (refine zap rfl ?_; first | refine zag 1 rfl rfl (hr _ (by omega)) (by intro h; cases h) ?_ | ((with_reducible refine zcv ?_); refine zan rfl ?_) | ((with_reducible refine zdf ?_); refine zas rfl rfl (by omega) ?_))
        all_goals refine zch ?_
        all_goals repeat (first | refine zck ?_ | refine zcl ?_ | refine zcm ?_ | refine zcn ?_)
        repeat (first | refine zck ?_ | refine zcl ?_ | refine zcm ?_ | refine zcn ?_)
        first | refine zcp (by kernel_rfl) ?_ | refine zcq PP_mixed (by kernel_rfl) (by kernel_rfl) ?_
        repeat' (refine zap rfl ?_; first | ((with_reducible refine zcu ?_); refine zan rfl ?_) | ((with_reducible refine zcv ?_); refine zan rfl ?_) | ((with_reducible refine zcx ?_); refine zah [0] (value_spec w0 p s x hp) rfl rfl rfl sub_nil rfl ?_) | ((with_reducible refine zcz ?_); refine zan rfl ?_))
        all_goals refine zch ?_
        all_goals repeat (first | refine zck ?_ | refine zcl ?_ | refine zcm ?_ | refine zcn ?_)
        refine run_open [0] (SpaceParts p s) rfl (fun _ h => h) ?_
        rintro ⟨bk, br, sa, sc⟩
        repeat (first | refine zck ?_ | refine zcl ?_ | refine zcm ?_ | refine zcn ?_)
        first | refine zcp (by kernel_rfl) ?_ | refine zcq PP_mixed (by kernel_rfl) (by kernel_rfl) ?_
        repeat' (refine zap rfl ?_; first | refine reg_lookup 1 rfl rfl rfl hw ?_ | refine zcb rfl ?_ | refine reg_buildSlice rfl rfl rfl rfl rfl rfl (fun nb => ?_) | refine reg_append 5 6 rfl rfl rfl rfl rfl rfl rfl rfl (by omega) (fun _ _ => rfl) (fun a' cap' => ?_) | ((with_reducible refine zcu ?_); refine zan rfl ?_) | ((with_reducible refine zcv ?_); refine zan rfl ?_) | ((with_reducible refine zcw ?_); refine zab 0 rfl rfl rfl ?_) | ((with_reducible refine zcy ?_); refine zao rfl ?_) | ((with_reducible refine zde ?_); refine zan rfl ?_))
        all_goals refine zch ?_
        all_goals repeat (first | refine zck ?_ | refine zcl ?_ | refine zcm ?_ | refine zcn ?_)
        refine run_close (A := SpaceA p s) [0, 0, 0, 0] rfl (fun _ h => ⟨(bk, br, sa, sc), h⟩) ?_
        refine run_take [0, 0, 0] rfl ?_
        have et : es.take (j + 1) = es.take j ++ [entE s x] := by rw [List.take_add_one, hex]; rfl
        have e1 : (es.take (j + 1)).length = (es.take j).length + 1 := by rw [et, List.length_append]; rfl
        repeat' (first | refine zcp (by kernel_rfl) ?_ | (refine zap rfl ?_; first | ((with_reducible refine zcu ?_); refine zan rfl ?_) | ((with_reducible refine zda ?_); refine zau rfl rfl (by omega) ?_)) | refine zch ?_)
        refine cut_end ⟨rfl, (a', cap', j + 1), ⟨rfl, by dsimp only; rw [e1]; rfl, rfl, rfl, int_eq (by dsimp only; omega), trivial⟩, ⟨?_, by dsimp only; omega⟩, by dsimp only; omega⟩
        dsimp only
        unfold EnA
        rw [e1, et, flatE_append]
        rfl
      · repeat' (first | refine zck ?_ | refine zcp (by kernel_rfl) ?_ | (refine zap rfl ?_; first | ((with_reducible refine zda ?_); refine zbh rfl rfl (by omega) ?_)) | refine zch ?_ | refine zcj rfl ?_)
        refine cut_exit rfl rfl ?_
        have ht : es.take j = es := List.take_of_length_le (by omega)
        rw [ht]
        refine cut_end ⟨rfl, (a, cap), ⟨rfl, rfl, trivial⟩, rfl⟩
    · obtain ⟨a, cap⟩ := st
      dsimp only
      by_cases hn : es.length = 0
      · rw [if_pos hn]
        repeat' (first | refine zck ?_ | refine zcp (by kernel_rfl) ?_ | (refine zap rfl ?_; first | ((with_reducible refine zcu ?_); refine zan rfl ?_) | ((with_reducible refine zcv ?_); refine zan rfl ?_) | ((with_reducible refine zcx ?_); refine zce rfl ?_) | ((with_reducible refine zda ?_); refine zbc rfl rfl (by omega) ?_)) | refine zch ?_ | refine zci rfl ?_)
        refine run_nilslice 81 6 ?_
        refine run_take [0, 2] rfl ?_
        exact ret_tmp2 rfl ⟨none, 0, rfl, rfl⟩
      · rw [if_neg hn]
        repeat' (first | refine zck ?_ | refine zcp (by kernel_rfl) ?_ | refine zcm ?_ | (refine zap rfl ?_; first | ((with_reducible refine zcu ?_); refine zan rfl ?_) | ((with_reducible refine zcv ?_); refine zan rfl ?_) | ((with_reducible refine zcx ?_); first | refine zah [2] (echeck_spec w0 a cap es her (by omega)) rfl rfl rfl sub_nil rfl ?_ | refine zce rfl ?_) | ((with_reducible refine zda ?_); first | refine zbd rfl rfl (by omega) ?_ | refine zbp rfl rfl ?_)) | refine zch ?_ | refine zcj rfl ?_)
        refine run_cond rfl (fun hE => ?_) (fun hE => ?_)
        · rw [if_pos hE]
          repeat' (first | refine zck ?_ | refine zcp (by kernel_rfl) ?_ | (refine zap rfl ?_; first | ((with_reducible refine zcu ?_); refine zan rfl ?_) | ((with_reducible refine zcv ?_); refine zan rfl ?_)) | refine zch ?_)
          refine run_nilslice 81 6 ?_
          refine run_take [1, 2] rfl ?_
          exact ret_tmp2 rfl ⟨none, 0, rfl, rfl⟩
        · rw [if_neg hE]
          repeat' (first | refine zck ?_ | refine zcp (by kernel_rfl) ?_ | refine zcm ?_ | (refine zap rfl ?_; first | ((with_reducible refine zcu ?_); refine zan rfl ?_) | ((with_reducible refine zcv ?_); refine zan rfl ?_)) | refine zch ?_)
          refine run_take [1, 0] rfl ?_
          exact ret_tmp2 rfl ⟨a, cap, rfl, rfl⟩
end Go.Proofs.Ytpcnbaddkblbhaa

/- slices.Compact at a slice of locations. -/
namespace Sim
open Go Go.Vc
theorem wr_int1 : ∀ (l : List Int) (k : Nat) (x : Int), k < l.length → wr [Value.int .i64 x] k (intsV l) = some (intsV (l.set k x))
  | [], k, x, h => by simp at h
  | y :: l, 0, x, _ => rfl
  | y :: l, k + 1, x, h => by
    have ih := wr_int1 l k x (by simpa using h)
    simp only [intsV, List.map_cons, wr, List.set_cons_succ] at ih ⊢
    rw [ih]
/-- The first `m` elements without those that stand behind their like. -/
def ddN (l : List Int) : Nat → List Int
  | 0 => []
  | 1 => l.take 1
  | m + 2 => if l[m + 1]? = l[m]? then ddN l (m + 1) else ddN l (m + 1) ++ (l[m + 1]?).toList
theorem ddN_le (l : List Int) : ∀ m, (ddN l m).length ≤ m
  | 0 => Nat.le_refl _
  | 1 => by simp [ddN]; omega
  | m + 2 => by
    have := ddN_le l (m + 1)
    simp only [ddN]
    split
    · omega
    · simp only [List.length_append]
      have : ((l[m + 1]?).toList).length ≤ 1 := by cases l[m + 1]? <;> simp
      omega
theorem ddN_mem (l : List Int) (x : Int) : ∀ m, x ∈ ddN l m ↔ x ∈ l.take m
  | 0 => by simp [ddN]
  | 1 => by simp [ddN]
  | m + 2 => by
    have ih := ddN_mem l x (m + 1)
    simp only [ddN]
    rw [List.take_add_one (i := m + 1), List.mem_append, ← ih]
    split
    · rename_i h
      rw [h]
      constructor
      · exact .inl
      · rintro (h2 | h2)
        · exact h2
        · rw [ih, List.take_add_one, List.mem_append]; exact .inr h2
    · rw [List.mem_append]
theorem ddN_pos (l : List Int) (h : 0 < l.length) : ∀ m, 1 ≤ m → 1 ≤ (ddN l m).length
  | 0, h1 => absurd h1 (by decide)
  | 1, _ => by simp [ddN]; omega
  | m + 2, _ => by
    have := ddN_pos l h (m + 1) (by omega)
    simp only [ddN]
    split
    · exact this
    · simp only [List.length_append]; omega
theorem ddN_small (l : List Int) (h : l.length < 2) : ddN l l.length = l := by
  match l, h with
  | [], _ => rfl
  | [a], _ => rfl
  | a :: b :: l, h => exact absurd h (by simp)
end Sim
namespace Go.Proofs.Ytpcnbaddkblbhaa
open Go.Vc Sim
set_option maxHeartbeats 4000000
theorem compact_spec (w0 : World) (a : Option Addr) (cap : Nat) (l : List Int) (hlen : l.length ≤ 1099511627776) :
    FnE PP w0 [] 53 [.slice a l.length cap] [SlA 27 1 a l.length cap (intsV l)] (.slice a (ddN l l.length).length cap) [SlA 27 1 a (ddN l l.length).length cap (intsV (ddN l l.length))] := by
  refine fn_of_run en53 fn53 rfl rfl rfl ?_
  by_cases h2 : l.length < 2
  · repeat' (first | refine zck ?_ | refine zcp (by kernel_rfl) ?_ | (refine zap rfl ?_; first | ((with_reducible refine zcu ?_); refine zan rfl ?_) | ((with_reducible refine zcv ?_); refine zan rfl ?_) | ((with_reducible refine zcx ?_); refine zce rfl ?_) | ((with_reducible refine zda ?_); refine zbg rfl rfl (by omega) ?_)) | refine zch ?_ | refine zci rfl ?_)
    rw [ddN_small l h2]
    exact ret_tmp1 rfl ⟨rfl, rfl⟩
  refine run_sl_cases 0 rfl (fun _ h _ _ => absurd h (by omega)) ?_
  intro bb q1 q2 q3
  subst q1
  repeat (first | refine zck ?_ | refine zcl ?_ | refine zcm ?_ | refine zcn ?_)
  first | refine zcp (by kernel_rfl) ?_ | refine zcq PP_mixed (by kernel_rfl) (by kernel_rfl) ?_
  repeat' (refine zap rfl ?_; first | ((with_reducible refine zcv ?_); refine zan rfl ?_))
  all_goals refine zch ?_
  all_goals repeat (first | refine zck ?_ | refine zcl ?_ | refine zcm ?_ | refine zcn ?_)
  repeat (first | refine zck ?_ | refine zcl ?_ | refine zcm ?_ | refine zcn ?_)
  first | refine zcp (by kernel_rfl) ?_ | refine zcq PP_mixed (by kernel_rfl) (by kernel_rfl) ?_
  repeat' (refine zap rfl ?_; first | ((with_reducible refine zcu ?_); refine zan rfl ?_) | ((with_reducible refine zcx ?_); refine zce rfl ?_) | ((with_reducible refine zda ?_); refine zbh rfl rfl (by omega) ?_))
  all_goals refine zch ?_
  all_goals repeat (first | refine zck ?_ | refine zcl ?_ | refine zcm ?_ | refine zcn ?_)
  refine zcj rfl ?_
  repeat (first | refine zck ?_ | refine zcl ?_ | refine zcm ?_ | refine zcn ?_)
  first | refine zcp (by kernel_rfl) ?_ | refine zcq PP_mixed (by kernel_rfl) (by kernel_rfl) ?_
  repeat' (refine zap rfl ?_; first | ((with_reducible refine zcv ?_); refine zan rfl ?_))
  all_goals refine zch ?_
  all_goals repeat (first | refine zck ?_ | refine zcl ?_ | refine zcm ?_ | refine zcn ?_)
  refine run_loop (S := Nat) (fun k => [(0, .slice (some ⟨bb, 0, none⟩) l.length cap), (3, .int .i64 (k : Int))])
    (fun k Γ => Γ = [SlA 27 1 (some ⟨bb, 0, none⟩) l.length cap (intsV l)] ∧ 1 ≤ k ∧ k ≤ l.length ∧ ddN l k = l.take k) (fun k => l.length - k) 1 ⟨rfl, rfl, trivial⟩ ⟨rfl, Nat.le_refl _, by omega, rfl⟩ ?_
  rintro k Γ junk ⟨rfl, k1, k2, k3⟩
  by_cases hlt : k < l.length
  · obtain ⟨x, hx⟩ : ∃ x, l[k]? = some x := ⟨_, List.getElem?_eq_getElem hlt⟩
    obtain ⟨y, hy⟩ : ∃ y, l[k - 1]? = some y := ⟨_, List.getElem?_eq_getElem (by omega)⟩
    have hrx := ints_rd hx
    have hry := ints_rd hy
    obtain ⟨k, rfl⟩ : ∃ m, k = m + 1 := ⟨k - 1, by omega⟩
    simp only [Nat.add_sub_cancel] at hy hry
    by_cases hxy : x = y
    · subst hxy
      have hdd : ddN l (k + 2) = ddN l (k + 1) := by rw [ddN, hx, hy, if_pos rfl]
      repeat (first | refine zck ?_ | refine zcl ?_ | refine zcm ?_ | refine zcn ?_)
      first | refine zcp (by kernel_rfl) ?_ | refine zcq PP_mixed (by kernel_rfl) (by kernel_rfl) ?_
      repeat' (refine zap rfl ?_; first | ((with_reducible refine zcu ?_); refine zan rfl ?_) | ((with_reducible refine zcx ?_); refine zce rfl ?_) | ((with_reducible refine zda ?_); refine zbg rfl rfl (by omega) ?_))
      all_goals refine zch ?_
      all_goals repeat (first | refine zck ?_ | refine zcl ?_ | refine zcm ?_ | refine zcn ?_)
      refine zci rfl ?_
      repeat (first | refine zck ?_ | refine zcl ?_ | refine zcm ?_ | refine zcn ?_)
      first | refine zcp (by kernel_rfl) ?_ | refine run_drawR PP_mixed (by kernel_rfl) (by kernel_rfl) ?_
      repeat' (refine zap rfl ?_; first | refine zag 0 rfl rfl (hrx _ (by omega)) (by intro h; cases h) ?_ | refine zag 0 rfl rfl (hry _ (by omega)) (by intro h; cases h) ?_ | ((with_reducible refine zcu ?_); refine zan rfl ?_) | ((with_reducible refine zda ?_); first | refine zbc rfl rfl (by omega) ?_ | refine zav rfl rfl (by omega) ?_) | ((with_reducible refine zdf ?_); refine zas rfl rfl (by omega) ?_))
      all_goals refine zch ?_
      all_goals repeat (first | refine zck ?_ | refine zcl ?_ | refine zcm ?_ | refine zcn ?_)
      refine zci rfl ?_
      repeat (first | refine zck ?_ | refine zcl ?_ | refine zcm ?_ | refine zcn ?_)
      first | refine zcp (by kernel_rfl) ?_ | refine zcq PP_mixed (by kernel_rfl) (by kernel_rfl) ?_
      repeat' (refine zap rfl ?_; first | refine reg_slice1 rfl rfl ⟨by omega, by omega⟩ (by omega) ?_ | ((with_reducible refine zcu ?_); refine zan rfl ?_) | ((with_reducible refine zcv ?_); refine zan rfl ?_))
      all_goals refine zch ?_
      all_goals repeat (first | refine zck ?_ | refine zcl ?_ | refine zcm ?_ | refine zcn ?_)
      repeat (first | refine zck ?_ | refine zcl ?_ | refine zcm ?_ | refine zcn ?_)
      first | refine zcp (by kernel_rfl) ?_ | refine zcq PP_mixed (by kernel_rfl) (by kernel_rfl) ?_
      repeat' (refine zap rfl ?_; first | ((with_reducible refine zcv ?_); refine zan rfl ?_))
      all_goals refine zch ?_
      all_goals repeat (refine zck ?_)
      refine run_bind_eq2 (σ := { C : List Int // C.length = l.length ∧ (ddN l l.length).length < l.length ∧ C.take (ddN l l.length).length = ddN l l.length })
        (l' := fun _ => [(0, .slice (some ⟨bb, 0, none⟩) l.length cap), (3, .int .i64 ((ddN l l.length).length : Int))]) (Γ' := fun st => [SlA 27 1 (some ⟨bb, 0, none⟩) l.length cap (intsV st.1)]) ?_ ?_
      · refine zcl ?_
        refine run_loop (S := Nat × List Int) (fun st => [(0, .slice (some ⟨bb, 0, none⟩) l.length cap), (3, .int .i64 ((ddN l (k + 1 + st.1)).length : Int)), (4, .slice (some ⟨bb, k + 1, none⟩) (l.length - (k + 1)) (cap - (k + 1))), (5, .int .i64 (st.1 : Int))])
          (fun st Γ => Γ = [SlA 27 1 (some ⟨bb, 0, none⟩) l.length cap (intsV st.2)] ∧ 1 ≤ st.1 ∧ k + 1 + st.1 ≤ l.length ∧ st.2.length = l.length ∧ (ddN l (k + 1 + st.1)).length < k + 1 + st.1 ∧
            st.2.take (ddN l (k + 1 + st.1)).length = ddN l (k + 1 + st.1) ∧ ∀ j, k + st.1 ≤ j → st.2[j]? = l[j]?) (fun st => l.length - st.1) (1, l)
          ⟨rfl, by dsimp only; rw [hdd, k3]; exact int_eq (by simp; omega), rfl, rfl, trivial⟩ ⟨rfl, Nat.le_refl _, by dsimp only; omega, rfl, by dsimp only; rw [hdd, k3]; simp; omega, by dsimp only; rw [hdd, k3]; simp, fun _ _ => rfl⟩ ?_
        rintro ⟨k2, C⟩ Γ junk ⟨rfl, g1, g2, g3, g4, g5, g6⟩
        dsimp only at g1 g2 g3 g4 g5 g6 ⊢
        generalize hK : (ddN l (k + 1 + k2)).length = K at g4 g5 ⊢
        have ek : k + 1 + (k2 + 1) = k + k2 + 2 := by omega
        have ek2 : k + k2 + 1 = k + 1 + k2 := by omega
        by_cases hl2 : k + 1 + k2 < l.length
        · obtain ⟨u, hu⟩ : ∃ u, l[k + k2 + 1]? = some u := ⟨_, List.getElem?_eq_getElem (by omega)⟩
          obtain ⟨v, hv⟩ : ∃ v, l[k + k2]? = some v := ⟨_, List.getElem?_eq_getElem (by omega)⟩
          have hru := ints_rd ((g6 (k + k2 + 1) (by omega)).trans hu)
          have hrv := ints_rd ((g6 (k + k2) (by omega)).trans hv)
          have hstep : ddN l (k + 1 + (k2 + 1)) = if u = v then ddN l (k + 1 + k2) else ddN l (k + 1 + k2) ++ [u] := by
            rw [ek, ddN, hu, hv, ek2]
            by_cases h : u = v
            · subst h; simp
            · simp [h]
          by_cases huv : u = v
          · subst huv
            rw [if_pos rfl] at hstep
            repeat' (first | refine zck ?_ | refine zcp (by kernel_rfl) ?_ | refine run_drawR PP_mixed (by kernel_rfl) (by kernel_rfl) ?_ | refine zcm ?_ | refine zcl ?_ | refine zcn ?_ | (refine zap rfl ?_; first | refine zag 0 rfl rfl (hru _ (by omega)) (by intro h; cases h) ?_ | refine zag 0 rfl rfl (hrv _ (by omega)) (by intro h; cases h) ?_ | ((with_reducible refine zcu ?_); refine zan rfl ?_) | ((with_reducible refine zcv ?_); refine zan rfl ?_) | ((with_reducible refine zcx ?_); refine zce rfl ?_) | ((with_reducible refine zda ?_); first | refine zbf rfl rfl (by omega) ?_ | refine zbg rfl rfl (by omega) ?_ | refine zau rfl rfl (by omega) ?_ | refine zav rfl rfl (by omega) ?_) | ((with_reducible refine zdf ?_); refine zas rfl rfl (by omega) ?_)) | refine zch ?_ | refine zci rfl ?_ | refine zcj rfl ?_)
            exact cut_end ⟨rfl, (k2 + 1, C), ⟨rfl, by dsimp only; rw [hstep, hK]; rfl, rfl, int_eq (by dsimp only; omega), trivial⟩, ⟨rfl, by dsimp only; omega, by dsimp only; omega, g3, by dsimp only; rw [hstep, hK]; omega, by dsimp only; rw [hstep, hK]; exact g5, fun j hj => g6 j (by dsimp only at hj; omega)⟩, by dsimp only; omega⟩
          · rw [if_neg huv] at hstep
            have hKc : K < C.length := by omega
            have hw := wr_int1 C K u hKc
            have hw2 : ∀ o, o = K → wr [Value.int .i64 u] o (intsV C) = some (intsV (C.set K u)) := fun o ho => ho ▸ hw
            repeat' (first | refine zck ?_ | refine zcp (by kernel_rfl) ?_ | refine run_drawR PP_mixed (by kernel_rfl) (by kernel_rfl) ?_ | refine zcm ?_ | refine zcl ?_ | refine zcn ?_ | (refine zap rfl ?_; first | refine zag 0 rfl rfl (hru _ (by omega)) (by intro h; cases h) ?_ | refine zag 0 rfl rfl (hrv _ (by omega)) (by intro h; cases h) ?_ | refine zaf 0 rfl rfl rfl rfl rfl (hw2 _ (by omega)) rfl ?_ | ((with_reducible refine zcu ?_); refine zan rfl ?_) | ((with_reducible refine zcv ?_); refine zan rfl ?_) | ((with_reducible refine zcx ?_); refine zce rfl ?_) | ((with_reducible refine zda ?_); first | refine zbe rfl rfl (by omega) ?_ | refine zbg rfl rfl (by omega) ?_ | refine zau rfl rfl (by omega) ?_ | refine zav rfl rfl (by omega) ?_) | ((with_reducible refine zdf ?_); refine zas rfl rfl (by omega) ?_)) | refine zch ?_ | refine zci rfl ?_)
            have hl3 : (ddN l (k + 1 + (k2 + 1))).length = K + 1 := by rw [hstep, List.length_append, hK]; rfl
            refine cut_end ⟨rfl, (k2 + 1, C.set K u), ⟨rfl, by dsimp only; rw [hl3]; exact int_eq (by omega), rfl, int_eq (by dsimp only; omega), trivial⟩, ⟨rfl, by dsimp only; omega, by dsimp only; omega, by simpa using g3, by dsimp only; rw [hl3]; omega, ?_, fun j hj => ?_⟩, by dsimp only; omega⟩
            · dsimp only
              rw [hl3, hstep, List.take_add_one, List.take_set_of_le (Nat.le_refl _), g5]
              simp [hKc]
            · dsimp only at hj ⊢
              rw [List.getElem?_set_ne (by omega)]
              exact g6 j (by omega)
        · repeat' (first | refine zck ?_ | refine zcp (by kernel_rfl) ?_ | (refine zap rfl ?_; first | ((with_reducible refine zcu ?_); refine zan rfl ?_) | ((with_reducible refine zcx ?_); refine zce rfl ?_) | ((with_reducible refine zda ?_); refine zbh rfl rfl (by omega) ?_)) | refine zch ?_ | refine zcj rfl ?_)
          refine cut_exit rfl rfl ?_
          have e : k + 1 + k2 = l.length := by omega
          rw [e] at g4 g5 hK
          rw [hK]
          exact cut_end ⟨rfl, ⟨C, g3, by omega, g5⟩, ⟨rfl, rfl, trivial⟩, rfl⟩
      · rintro ⟨C, c1, c2, c3⟩ junk
        dsimp only
        generalize hK : ddN l l.length = D at c2 c3 ⊢
        have hDl : C.length = l.length := c1
        repeat' (first | refine zck ?_ | refine zcp (by kernel_rfl) ?_ | (refine zap rfl ?_; first | refine reg_slice1 rfl rfl ⟨by omega, by omega⟩ (by omega) ?_ | refine reg_slice2 rfl rfl ⟨by omega, by omega⟩ ?_ | refine reg_clear 0 rfl rfl rfl rfl (by omega) rfl ?_ | ((with_reducible refine zcu ?_); refine zan rfl ?_) | ((with_reducible refine zcv ?_); refine zan rfl ?_)) | refine zch ?_)
        refine run_exch 0 (SlA 27 1 (some ⟨bb, 0, none⟩) D.length cap (intsV D)) rfl (fun g hg => ?_) rfl ?_
        · have h := SlA_cutc hg (q := D.length) (by omega)
          have e : (List.take D.length (intsV C) ++ List.replicate (l.length - D.length) (Value.int .i64 0) ++ List.drop (D.length + (l.length - D.length)) (intsV C)).take (D.length * 1) = intsV D := by
            have h1 : (List.take D.length (intsV C)).length = D.length := by simp [intsV]; omega
            rw [Nat.mul_one, List.append_assoc, List.take_append_of_le_length (by omega), List.take_take, Nat.min_self]
            rw [intsV, ← List.map_take, c3]; rfl
          rw [← e]
          exact h
        exact qret1 (fun _ _ h => h) rfl ⟨rfl, rfl⟩
    · repeat' (first | refine zck ?_ | refine zcp (by kernel_rfl) ?_ | refine run_drawR PP_mixed (by kernel_rfl) (by kernel_rfl) ?_ | refine zcm ?_ | refine zcl ?_ | refine zcn ?_ | (refine zap rfl ?_; first | refine zag 0 rfl rfl (hrx _ (by omega)) (by intro h; cases h) ?_ | refine zag 0 rfl rfl (hry _ (by omega)) (by intro h; cases h) ?_ | ((with_reducible refine zcu ?_); refine zan rfl ?_) | ((with_reducible refine zcv ?_); refine zan rfl ?_) | ((with_reducible refine zcx ?_); refine zce rfl ?_) | ((with_reducible refine zda ?_); first | refine zbd rfl rfl (by omega) ?_ | refine zbg rfl rfl (by omega) ?_ | refine zau rfl rfl (by omega) ?_ | refine zav rfl rfl (by omega) ?_) | ((with_reducible refine zdf ?_); refine zas rfl rfl (by omega) ?_)) | refine zch ?_ | refine zci rfl ?_ | refine zcj rfl ?_)
      refine cut_end ⟨rfl, k + 2, ⟨rfl, int_eq (by omega), trivial⟩, ⟨rfl, by omega, by omega, ?_⟩, by omega⟩
      rw [ddN, hx, hy, if_neg (by intro e; exact hxy (Option.some.inj e)), k3, List.take_add_one (i := k + 1), hx]
  · repeat' (first | refine zck ?_ | refine zcp (by kernel_rfl) ?_ | (refine zap rfl ?_; first | ((with_reducible refine zcu ?_); refine zan rfl ?_) | ((with_reducible refine zcx ?_); refine zce rfl ?_) | ((with_reducible refine zda ?_); refine zbh rfl rfl (by omega) ?_)) | refine zch ?_ | refine zcj rfl ?_)
    refine cut_exit rfl rfl ?_
    repeat' (first | refine zck ?_ | refine zcp (by kernel_rfl) ?_ | (refine zap rfl ?_; first | ((with_reducible refine zcu ?_); refine zan rfl ?_) | ((with_reducible refine zcv ?_); refine zan rfl ?_)) | refine zch ?_)
    have e : k = l.length := by omega
    subst e
    rw [k3, List.take_length]
    exact ret_tmp1 rfl ⟨rfl, rfl⟩
end Go.Proofs.Ytpcnbaddkblbhaa

/- Space.Writes. -/
namespace Sim
open Go Go.Vc
theorem flat_two : ∀ (l : List (Int × Int)) (k : Nat) (q : Int × Int), l[k]? = some q → rd true 2 (flat l) (k * 2) = some (.agg (List.toArray [.int .i64 q.1, .int .i64 q.2]))
  | [], k, q, h => by simp at h
  | (a, v) :: l, 0, q, h => by simp at h; subst h; rfl
  | (a, v) :: l, k + 1, q, h => by
    have e : (k + 1) * 2 = k * 2 + 1 + 1 := by omega
    simp only [List.getElem?_cons_succ] at h
    have ih := flat_two l k q h
    rw [e]
    exact ih
/-- The written locations, in order. -/
def Sp.writes (s : Sp) : List Int := let l := (s.puts.map (·.1)).mergeSort (fun x y => decide (x ≤ y)); ddN l l.length
theorem Sp.writes_nil {s : Sp} (h : s.puts = []) : s.writes = [] := by simp [Sp.writes, h, ddN]
theorem Sp.writes_mem {s : Sp} (x : Int) : x ∈ s.writes ↔ ∃ p ∈ s.puts, p.1 = x := by
  unfold Sp.writes
  simp only
  rw [ddN_mem, List.take_length, List.mem_mergeSort, List.mem_map]
theorem Sp.writes_len0 {s : Sp} : s.writes.length = 0 ↔ s.puts = [] := by
  constructor
  · intro h
    cases hp : s.puts with
    | nil => rfl
    | cons p l =>
      have : p.1 ∈ s.writes := (Sp.writes_mem _).2 ⟨p, by rw [hp]; simp, rfl⟩
      rw [List.length_eq_zero_iff.1 h] at this
      cases this
  · intro h; rw [Sp.writes_nil h]; rfl
end Sim
namespace Go.Proofs.Ytpcnbaddkblbhaa
open Go.Vc Sim
set_option maxHeartbeats 4000000
theorem writes_spec (w0 : World) (p : Nat) (s : Sp) (hlen : s.puts.length < 65536) :
    Vc.Fn PP w0 [] 31 [spP p] [SpaceA p s] fun v Γ => ∃ a cap, v = .slice a s.writes.length cap ∧ Γ = [SpaceA p s, SlA 27 1 a s.writes.length cap (intsV s.writes)] := by
  refine fn_of_run en31 fn31 rfl rfl rfl ?_
  refine run_open [0] (SpaceParts p s) rfl (fun _ h => h) ?_
  rintro ⟨bk, br, sa, sc⟩
  refine run_nilslice 27 1 ?_
  repeat (first | refine zck ?_ | refine zcl ?_ | refine zcm ?_ | refine zcn ?_)
  first | refine zcp (by kernel_rfl) ?_ | refine zcq PP_mixed (by kernel_rfl) (by kernel_rfl) ?_
  repeat' (refine zap rfl ?_; first | ((with_reducible refine zcu ?_); refine zan rfl ?_) | ((with_reducible refine zcv ?_); refine zan rfl ?_) | ((with_reducible refine zcw ?_); first | refine zaa 0 rfl rfl rfl ?_ | refine zaa 1 rfl rfl rfl ?_ | refine zaa 2 rfl rfl rfl ?_ | refine zaa 3 rfl rfl rfl ?_ | refine zaa 4 rfl rfl rfl ?_ | refine zaa 5 rfl rfl rfl ?_ | refine zab 0 rfl rfl rfl ?_ | refine zab 1 rfl rfl rfl ?_ | refine zab 2 rfl rfl rfl ?_ | refine zab 3 rfl rfl rfl ?_ | refine zab 4 rfl rfl rfl ?_ | refine zab 5 rfl rfl rfl ?_) | ((with_reducible refine zcx ?_); refine zce rfl ?_) | ((with_reducible refine zcy ?_); refine zao rfl ?_) | ((with_reducible refine zda ?_); first | refine reg_addZ rfl rfl (by omega) ?_ | refine zau rfl rfl (by omega) ?_ | refine zbo rfl rfl ?_ | refine zbq rfl rfl ?_ | refine zaz rfl rfl ?_ | refine zbb rfl rfl ?_) | ((with_reducible refine zdd ?_); first | refine zae 0 rfl rfl rfl rfl rfl rfl rfl ?_ | refine zae 1 rfl rfl rfl rfl rfl rfl rfl ?_ | refine zae 2 rfl rfl rfl rfl rfl rfl rfl ?_ | refine zae 3 rfl rfl rfl rfl rfl rfl rfl ?_ | refine zae 4 rfl rfl rfl rfl rfl rfl rfl ?_ | refine zae 5 rfl rfl rfl rfl rfl rfl rfl ?_) | ((with_reducible refine zde ?_); refine zan rfl ?_) | ((with_reducible refine zdf ?_); first | refine zas rfl rfl (by omega) ?_ | refine zat rfl rfl (by omega) ?_) | ((with_reducible refine zdh ?_); refine zar (fun nb => ?_)))
  all_goals refine zch ?_
  all_goals repeat (first | refine zck ?_ | refine zcl ?_ | refine zcm ?_ | refine zcn ?_)
  repeat (first | refine zck ?_ | refine zcl ?_ | refine zcm ?_ | refine zcn ?_)
  first | refine zcp (by kernel_rfl) ?_ | refine zcq PP_mixed (by kernel_rfl) (by kernel_rfl) ?_
  repeat' (refine zap rfl ?_; first | ((with_reducible refine zcu ?_); refine zan rfl ?_) | ((with_reducible refine zcv ?_); refine zan rfl ?_) | ((with_reducible refine zcw ?_); first | refine zaa 0 rfl rfl rfl ?_ | refine zaa 1 rfl rfl rfl ?_ | refine zaa 2 rfl rfl rfl ?_ | refine zaa 3 rfl rfl rfl ?_ | refine zaa 4 rfl rfl rfl ?_ | refine zaa 5 rfl rfl rfl ?_ | refine zab 0 rfl rfl rfl ?_ | refine zab 1 rfl rfl rfl ?_ | refine zab 2 rfl rfl rfl ?_ | refine zab 3 rfl rfl rfl ?_ | refine zab 4 rfl rfl rfl ?_ | refine zab 5 rfl rfl rfl ?_) | ((with_reducible refine zcx ?_); refine zce rfl ?_) | ((with_reducible refine zcy ?_); refine zao rfl ?_) | ((with_reducible refine zda ?_); first | refine reg_addZ rfl rfl (by omega) ?_ | refine zau rfl rfl (by omega) ?_ | refine zbo rfl rfl ?_ | refine zbq rfl rfl ?_ | refine zaz rfl rfl ?_ | refine zbb rfl rfl ?_) | ((with_reducible refine zdd ?_); first | refine zae 0 rfl rfl rfl rfl rfl rfl rfl ?_ | refine zae 1 rfl rfl rfl rfl rfl rfl rfl ?_ | refine zae 2 rfl rfl rfl rfl rfl rfl rfl ?_ | refine zae 3 rfl rfl rfl rfl rfl rfl rfl ?_ | refine zae 4 rfl rfl rfl rfl rfl rfl rfl ?_ | refine zae 5 rfl rfl rfl rfl rfl rfl rfl ?_) | ((with_reducible refine zde ?_); refine zan rfl ?_) | ((with_reducible refine zdf ?_); first | refine zas rfl rfl (by omega) ?_ | refine zat rfl rfl (by omega) ?_) | ((with_reducible refine zdh ?_); refine zar (fun nb => ?_)))
  all_goals refine zch ?_
  all_goals repeat (first | refine zck ?_ | refine zcl ?_ | refine zcm ?_ | refine zcn ?_)
  repeat (first | refine zck ?_ | refine zcl ?_ | refine zcm ?_ | refine zcn ?_)
  first | refine zcp (by kernel_rfl) ?_ | refine zcq PP_mixed (by kernel_rfl) (by kernel_rfl) ?_
  repeat' (refine zap rfl ?_; first | ((with_reducible refine zcu ?_); refine zan rfl ?_) | ((with_reducible refine zcv ?_); refine zan rfl ?_) | ((with_reducible refine zcw ?_); first | refine zaa 0 rfl rfl rfl ?_ | refine zaa 1 rfl rfl rfl ?_ | refine zaa 2 rfl rfl rfl ?_ | refine zaa 3 rfl rfl rfl ?_ | refine zaa 4 rfl rfl rfl ?_ | refine zaa 5 rfl rfl rfl ?_ | refine zab 0 rfl rfl rfl ?_ | refine zab 1 rfl rfl rfl ?_ | refine zab 2 rfl rfl rfl ?_ | refine zab 3 rfl rfl rfl ?_ | refine zab 4 rfl rfl rfl ?_ | refine zab 5 rfl rfl rfl ?_) | ((with_reducible refine zcx ?_); refine zce rfl ?_) | ((with_reducible refine zcy ?_); refine zao rfl ?_) | ((with_reducible refine zda ?_); first | refine reg_addZ rfl rfl (by omega) ?_ | refine zau rfl rfl (by omega) ?_ | refine zbo rfl rfl ?_ | refine zbq rfl rfl ?_ | refine zaz rfl rfl ?_ | refine zbb rfl rfl ?_) | ((with_reducible refine zdd ?_); first | refine zae 0 rfl rfl rfl rfl rfl rfl rfl ?_ | refine zae 1 rfl rfl rfl rfl rfl rfl rfl ?_ | refine zae 2 rfl rfl rfl rfl rfl rfl rfl ?_ | refine zae 3 rfl rfl rfl rfl rfl rfl rfl ?_ | refine zae 4 rfl rfl rfl rfl rfl rfl rfl ?_ | refine zae 5 rfl rfl rfl rfl rfl rfl rfl ?_) | ((with_reducible refine zde ?_); refine zan rfl ?_) | ((with_reducible refine zdf ?_); first | refine zas rfl rfl (by omega) ?_ | refine zat rfl rfl (by omega) ?_) | ((with_reducible refine zdh ?_); refine zar (fun nb => ?_)))
  all_goals refine zch ?_
  all_goals repeat (first | refine zck ?_ | refine zcl ?_ | refine zcm ?_ | refine zcn ?_)
  refine zcj rfl ?_
  refine zcm ?_
  repeat (first | refine zck ?_ | refine zcl ?_ | refine zcm ?_ | refine zcn ?_)
  first | refine zcp (by kernel_rfl) ?_ | refine zcq PP_mixed (by kernel_rfl) (by kernel_rfl) ?_
  repeat' (refine zap rfl ?_; first | ((with_reducible refine zcu ?_); refine zan rfl ?_) | ((with_reducible refine zcv ?_); refine zan rfl ?_) | ((with_reducible refine zcw ?_); first | refine zaa 0 rfl rfl rfl ?_ | refine zaa 1 rfl rfl rfl ?_ | refine zaa 2 rfl rfl rfl ?_ | refine zaa 3 rfl rfl rfl ?_ | refine zaa 4 rfl rfl rfl ?_ | refine zaa 5 rfl rfl rfl ?_ | refine zab 0 rfl rfl rfl ?_ | refine zab 1 rfl rfl rfl ?_ | refine zab 2 rfl rfl rfl ?_ | refine zab 3 rfl rfl rfl ?_ | refine zab 4 rfl rfl rfl ?_ | refine zab 5 rfl rfl rfl ?_) | ((with_reducible refine zcx ?_); refine zce rfl ?_) | ((with_reducible refine zcy ?_); refine zao rfl ?_) | ((with_reducible refine zda ?_); first | refine zbc rfl rfl (by omega) ?_ | refine zbd rfl rfl (by omega) ?_ | refine zbg rfl rfl (by omega) ?_ | refine zbh rfl rfl (by omega) ?_ | refine reg_addZ rfl rfl (by omega) ?_ | refine zau rfl rfl (by omega) ?_ | refine zbo rfl rfl ?_ | refine zbq rfl rfl ?_ | refine zaz rfl rfl ?_ | refine zbb rfl rfl ?_) | ((with_reducible refine zdd ?_); first | refine zae 0 rfl rfl rfl rfl rfl rfl rfl ?_ | refine zae 1 rfl rfl rfl rfl rfl rfl rfl ?_ | refine zae 2 rfl rfl rfl rfl rfl rfl rfl ?_ | refine zae 3 rfl rfl rfl rfl rfl rfl rfl ?_ | refine zae 4 rfl rfl rfl rfl rfl rfl rfl ?_ | refine zae 5 rfl rfl rfl rfl rfl rfl rfl ?_) | ((with_reducible refine zde ?_); refine zan rfl ?_) | ((with_reducible refine zdf ?_); first | refine zas rfl rfl (by omega) ?_ | refine zat rfl rfl (by omega) ?_) | ((with_reducible refine zdh ?_); refine zar (fun nb => ?_)))
  all_goals refine zch ?_
  all_goals repeat (refine zck ?_)
  refine zcl ?_
  refine run_loop (S := Option Addr × Nat × Nat) (fun st => [(3, .slice st.1 st.2.2 st.2.1), (12, .slice sa s.puts.length sc), (13, .int .i64 (s.puts.length : Int)), (14, .int .i64 (st.2.2 : Int))])
    (fun st Γ => Γ = SpaceParts p s (bk, br, sa, sc) ++ [SlA 27 1 st.1 st.2.2 st.2.1 (intsV ((s.puts.take st.2.2).map (·.1)))] ∧ st.2.2 ≤ s.puts.length)
    (fun st => s.puts.length - st.2.2) (none, 0, 0) ⟨rfl, rfl, rfl, rfl, trivial⟩ ⟨rfl, Nat.zero_le _⟩ ?_
  rintro ⟨a, cap, i⟩ Γ junk ⟨rfl, h1⟩
  dsimp only at h1 ⊢
  by_cases hlt : i < s.puts.length
  · obtain ⟨q, hq⟩ : ∃ q, s.puts[i]? = some q := ⟨_, List.getElem?_eq_getElem hlt⟩
    have hr : ∀ o, o = i * 2 → rd true 2 (flat s.puts) o = some (.agg (List.toArray [.int .i64 q.1, .int .i64 q.2])) := fun o ho => ho ▸ flat_two _ _ _ hq
    refine run_sl_cases 3 rfl (fun _ h _ _ => absurd h (by omega)) ?_
    intro bb k1 k2 k3
    subst k1
    repeat' (first | refine zck ?_ | refine zcp (by kernel_rfl) ?_ | refine zcq PP_mixed (by kernel_rfl) (by kernel_rfl) ?_ | refine zcm ?_ | refine zcl ?_ | refine zcn ?_ | refine zco ?_ | refine zcs rfl ?_ | (refine zap rfl ?_; first | refine zag 3 rfl rfl (hr _ (by omega)) (by intro _; decide) ?_ | refine reg_buildSlice rfl rfl rfl rfl rfl rfl (fun nb => ?_) | refine reg_append 4 6 rfl rfl rfl rfl rfl rfl rfl rfl (by omega) (fun _ _ => rfl) (fun a' cap' => ?_) | ((with_reducible refine zcu ?_); refine zan rfl ?_) | ((with_reducible refine zcv ?_); refine zan rfl ?_) | ((with_reducible refine zcw ?_); first | refine zaa 0 rfl rfl rfl ?_ | refine zaa 1 rfl rfl rfl ?_ | refine zaa 2 rfl rfl rfl ?_ | refine zaa 3 rfl rfl rfl ?_ | refine zaa 4 rfl rfl rfl ?_ | refine zaa 5 rfl rfl rfl ?_ | refine zab 0 rfl rfl rfl ?_ | refine zab 1 rfl rfl rfl ?_ | refine zab 2 rfl rfl rfl ?_ | refine zab 3 rfl rfl rfl ?_ | refine zab 4 rfl rfl rfl ?_ | refine zab 5 rfl rfl rfl ?_) | ((with_reducible refine zcx ?_); refine zce rfl ?_) | ((with_reducible refine zcy ?_); refine zao rfl ?_) | ((with_reducible refine zda ?_); first | refine zbc rfl rfl (by omega) ?_ | refine zbd rfl rfl (by omega) ?_ | refine zbg rfl rfl (by omega) ?_ | refine zbh rfl rfl (by omega) ?_ | refine reg_addZ rfl rfl (by omega) ?_ | refine zau rfl rfl (by omega) ?_ | refine zbo rfl rfl ?_ | refine zbq rfl rfl ?_ | refine zaz rfl rfl ?_ | refine zbb rfl rfl ?_) | ((with_reducible refine zdd ?_); first | refine zae 0 rfl rfl rfl rfl rfl rfl rfl ?_ | refine zae 1 rfl rfl rfl rfl rfl rfl rfl ?_ | refine zae 2 rfl rfl rfl rfl rfl rfl rfl ?_ | refine zae 3 rfl rfl rfl rfl rfl rfl rfl ?_ | refine zae 4 rfl rfl rfl rfl rfl rfl rfl ?_ | refine zae 5 rfl rfl rfl rfl rfl rfl rfl ?_) | ((with_reducible refine zde ?_); refine zan rfl ?_) | ((with_reducible refine zdf ?_); first | refine zas rfl rfl (by omega) ?_ | refine zat rfl rfl (by omega) ?_) | ((with_reducible refine zdh ?_); refine zar (fun nb => ?_))) | refine zch ?_ | refine zci rfl ?_ | refine zcj rfl ?_)
    refine run_take [0, 0, 0, 0, 0] rfl ?_
    have et : (s.puts.take (i + 1)).map (·.1) = (s.puts.take i).map (·.1) ++ [q.1] := by rw [List.take_add_one, hq]; simp
    refine cut_end ⟨rfl, (a', cap', i + 1), ⟨rfl, rfl, rfl, int_eq (by dsimp only; omega), trivial⟩, ⟨?_, hlt⟩, by dsimp only; omega⟩
    dsimp only
    rw [et]
    simp only [intsV, List.map_append]
    rfl
  · have e : i = s.puts.length := by omega
    subst e
    rw [List.take_length]
    have hS := sort_spec w0 a s.puts.length cap (s.puts.map (·.1)) hlen (by rw [List.length_map])
    generalize hL : (s.puts.map (·.1)).mergeSort (fun x y => decide (x ≤ y)) = L at hS
    have hLl : L.length = s.puts.length := by rw [← hL, List.length_mergeSort, List.length_map]
    have hw : s.writes = ddN L L.length := by unfold Sp.writes; simp only [hL]
    have hC := compact_spec w0 a cap L (by omega)
    rw [hLl] at hC
    repeat' (first | refine zck ?_ | refine zcp (by kernel_rfl) ?_ | refine zcq PP_mixed (by kernel_rfl) (by kernel_rfl) ?_ | refine zcm ?_ | refine zcl ?_ | refine zcn ?_ | refine zco ?_ | refine zcs rfl ?_ | (refine zap rfl ?_; first | ((with_reducible refine zcu ?_); refine zan rfl ?_) | ((with_reducible refine zcv ?_); refine zan rfl ?_) | ((with_reducible refine zcw ?_); first | refine zaa 0 rfl rfl rfl ?_ | refine zaa 1 rfl rfl rfl ?_ | refine zaa 2 rfl rfl rfl ?_ | refine zaa 3 rfl rfl rfl ?_ | refine zaa 4 rfl rfl rfl ?_ | refine zaa 5 rfl rfl rfl ?_ | refine zab 0 rfl rfl rfl ?_ | refine zab 1 rfl rfl rfl ?_ | refine zab 2 rfl rfl rfl ?_ | refine zab 3 rfl rfl rfl ?_ | refine zab 4 rfl rfl rfl ?_ | refine zab 5 rfl rfl rfl ?_) | ((with_reducible refine zcx ?_); refine zce rfl ?_) | ((with_reducible refine zcy ?_); refine zao rfl ?_) | ((with_reducible refine zda ?_); first | refine zbc rfl rfl (by omega) ?_ | refine zbd rfl rfl (by omega) ?_ | refine zbg rfl rfl (by omega) ?_ | refine zbh rfl rfl (by omega) ?_ | refine reg_addZ rfl rfl (by omega) ?_ | refine zau rfl rfl (by omega) ?_ | refine zbo rfl rfl ?_ | refine zbq rfl rfl ?_ | refine zaz rfl rfl ?_ | refine zbb rfl rfl ?_) | ((with_reducible refine zdd ?_); first | refine zae 0 rfl rfl rfl rfl rfl rfl rfl ?_ | refine zae 1 rfl rfl rfl rfl rfl rfl rfl ?_ | refine zae 2 rfl rfl rfl rfl rfl rfl rfl ?_ | refine zae 3 rfl rfl rfl rfl rfl rfl rfl ?_ | refine zae 4 rfl rfl rfl rfl rfl rfl rfl ?_ | refine zae 5 rfl rfl rfl rfl rfl rfl rfl ?_) | ((with_reducible refine zde ?_); refine zan rfl ?_) | ((with_reducible refine zdf ?_); first | refine zas rfl rfl (by omega) ?_ | refine zat rfl rfl (by omega) ?_) | ((with_reducible refine zdh ?_); refine zar (fun nb => ?_))) | refine zch ?_ | refine zci rfl ?_ | refine zcj rfl ?_)
    refine cut_exit rfl rfl ?_
    repeat' (first | refine zck ?_ | refine zcp (by kernel_rfl) ?_ | refine zcq PP_mixed (by kernel_rfl) (by kernel_rfl) ?_ | refine zcm ?_ | refine zcl ?_ | refine zcn ?_ | refine zco ?_ | refine zcs rfl ?_ | (refine zap rfl ?_; first | ((with_reducible refine zcu ?_); refine zan rfl ?_) | ((with_reducible refine zcv ?_); refine zan rfl ?_) | ((with_reducible refine zcw ?_); first | refine zaa 0 rfl rfl rfl ?_ | refine zaa 1 rfl rfl rfl ?_ | refine zaa 2 rfl rfl rfl ?_ | refine zaa 3 rfl rfl rfl ?_ | refine zaa 4 rfl rfl rfl ?_ | refine zaa 5 rfl rfl rfl ?_ | refine zab 0 rfl rfl rfl ?_ | refine zab 1 rfl rfl rfl ?_ | refine zab 2 rfl rfl rfl ?_ | refine zab 3 rfl rfl rfl ?_ | refine zab 4 rfl rfl rfl ?_ | refine zab 5 rfl rfl rfl ?_) | ((with_reducible refine zcx ?_); first | refine zah [4] hS rfl rfl rfl sub_nil rfl ?_ | refine zah [0] hC rfl rfl rfl sub_nil rfl ?_ | refine zce rfl ?_) | ((with_reducible refine zcy ?_); refine zao rfl ?_) | ((with_reducible refine zda ?_); first | refine zbc rfl rfl (by omega) ?_ | refine zbd rfl rfl (by omega) ?_ | refine zbg rfl rfl (by omega) ?_ | refine zbh rfl rfl (by omega) ?_ | refine reg_addZ rfl rfl (by omega) ?_ | refine zau rfl rfl (by omega) ?_ | refine zbo rfl rfl ?_ | refine zbq rfl rfl ?_ | refine zaz rfl rfl ?_ | refine zbb rfl rfl ?_) | ((with_reducible refine zdd ?_); first | refine zae 0 rfl rfl rfl rfl rfl rfl rfl ?_ | refine zae 1 rfl rfl rfl rfl rfl rfl rfl ?_ | refine zae 2 rfl rfl rfl rfl rfl rfl rfl ?_ | refine zae 3 rfl rfl rfl rfl rfl rfl rfl ?_ | refine zae 4 rfl rfl rfl rfl rfl rfl rfl ?_ | refine zae 5 rfl rfl rfl rfl rfl rfl rfl ?_) | ((with_reducible refine zde ?_); refine zan rfl ?_) | ((with_reducible refine zdf ?_); first | refine zas rfl rfl (by omega) ?_ | refine zat rfl rfl (by omega) ?_) | ((with_reducible refine zdh ?_); refine zar (fun nb => ?_))) | refine zch ?_ | refine zci rfl ?_ | refine zcj rfl ?_)
    refine run_close (A := SpaceA p s) [1, 1, 1, 1] rfl (fun _ h => ⟨(bk, br, sa, sc), h⟩) ?_
    refine ret_tmp1 rfl ⟨a, cap, ?_, ?_⟩
    · rw [hw, hLl]; rfl
    · rw [hw, hLl]
end Go.Proofs.Ytpcnbaddkblbhaa

/- The walks of package forest: node, cell, place, many, check, take, add. -/
namespace Go.Proofs.Ytpcnbaddkblbhaa
open Go.Vc Sim
set_option maxHeartbeats 4000000
def foV (F : Fo) : Value := .agg #[.int .i64 F.pool.root, .int .i64 F.pool.frm, .int .i64 F.pool.nodes, .int .i64 F.root]
theorem _root_.Sim.Fo.nodeN_bd (v : Int) : 0 ≤ Fo.nodeN v ∧ Fo.nodeN v ≤ 4096 := by unfold Fo.nodeN; split <;> omega
theorem foNode (w0 : World) (F : Fo) (hF : F.Ok) (v : Int) : FnE PP w0 [] 67 [foV F, .int .i64 v] [] (.tuple #[.int .i64 (Fo.nodeN v), .bool (F.nodeB v)]) [] := by
  refine fn_of_run en67 fn67 rfl rfl rfl ?_
  repeat (first | refine zck ?_ | refine zcl ?_ | refine zcm ?_ | refine zcn ?_)
  first | refine zcp (by kernel_rfl) ?_ | refine zcq PP_mixed (by kernel_rfl) (by kernel_rfl) ?_
  repeat' (refine zap rfl ?_; first | ((with_reducible refine zcv ?_); refine zan rfl ?_) | ((with_reducible refine zdg ?_); refine zaq (cs := [_, _, _, _]) rfl (fun nb => ?_)))
  all_goals refine zch ?_
  all_goals repeat (first | refine zck ?_ | refine zcl ?_ | refine zcm ?_ | refine zcn ?_)
  refine run_share [0] rfl ?_
  repeat' (first | refine zck ?_ | refine zcp (by kernel_rfl) ?_ | refine zcm ?_ | (refine zap rfl ?_; first | ((with_reducible refine zct ?_); first | refine zaj rfl ?_ | refine zak rfl ?_ | refine zam rfl rfl (fun _ => ?_) (fun _ => ?_)) | ((with_reducible refine zcu ?_); refine zan rfl ?_) | ((with_reducible refine zcv ?_); refine zan rfl ?_) | ((with_reducible refine zcw ?_); refine zaa 0 rfl rfl rfl ?_) | ((with_reducible refine zcx ?_); refine zah [] (node_spec w0 F.pool hF.1 _) rfl rfl rfl sub_nil rfl ?_) | ((with_reducible refine zcy ?_); refine zao rfl ?_) | ((with_reducible refine zcz ?_); refine zan rfl ?_) | ((with_reducible refine zda ?_); first | refine zbr rfl rfl ?_ | refine zbs rfl rfl ?_) | ((with_reducible refine zdc ?_); first | refine zbu rfl ?_ | refine zbv rfl ?_)) | refine zch ?_ | refine zci rfl ?_ | refine run_cond rfl (fun _ => ?_) (fun _ => ?_))
  all_goals refine ret_tmp2 rfl ⟨?_, rfl⟩
  all_goals unfold Fo.nodeN Fo.nodeB
  all_goals first | rw [if_pos (by omega), if_pos (by omega)] | rw [if_neg (by omega), if_neg (by omega)]
  all_goals rfl
theorem foCell (w0 : World) (p : Nat) (F : Fo) (hF : F.Ok) (x : Int) (hx : 1 ≤ x ∧ x ≤ 9223372036854775807) : FnG w0 [] 66 [foV F, spP p, .int .i64 x] p (F.cell x) encIB := by
  obtain ⟨_, h1, h2⟩ := id hF
  intro s hS; have hG := At.start hS; generalize Pg.run _ s = R at hG ⊢
  refine fn_of_run en66 fn66 rfl rfl rfl ?_
  repeat (first | refine zck ?_ | refine zcl ?_ | refine zcm ?_ | refine zcn ?_)
  first | refine zcp (by kernel_rfl) ?_ | refine zcq PP_mixed (by kernel_rfl) (by kernel_rfl) ?_
  repeat' (refine zap rfl ?_; first | ((with_reducible refine zcv ?_); refine zan rfl ?_) | ((with_reducible refine zdg ?_); refine zaq (cs := [_, _, _, _]) rfl (fun nb => ?_)))
  all_goals refine zch ?_
  all_goals repeat (first | refine zck ?_ | refine zcl ?_ | refine zcm ?_ | refine zcn ?_)
  refine run_share [1] rfl ?_
  repeat' (first | refine zck ?_ | refine zcp (by kernel_rfl) ?_ | refine zcq PP_mixed (by kernel_rfl) (by kernel_rfl) ?_ | (refine zap rfl ?_; first | refine zau rfl rfl (by have := Fo.nodeN_bd u; omega) ?_ | ((with_reducible refine zcu ?_); refine zan rfl ?_) | ((with_reducible refine zcv ?_); refine zan rfl ?_) | ((with_reducible refine zcw ?_); refine zaa 0 rfl rfl rfl ?_) | ((with_reducible refine zcx ?_); first | refine reg_callG [0] hG (getG w0 p _) rfl rfl rfl sub_nil (fun u s hG => ?_) | refine zah [] (foNode w0 F hF _) rfl rfl rfl sub_nil rfl ?_) | ((with_reducible refine zcy ?_); refine zao rfl ?_) | ((with_reducible refine zcz ?_); refine zan rfl ?_) | ((with_reducible refine zda ?_); first | refine zau rfl rfl (by omega) ?_ | refine zav rfl rfl (by omega) ?_ | refine zax rfl rfl (by omega) ?_ | refine zay rfl rfl (by omega) ?_)) | refine zch ?_)
  rw [hG.done]
  exact ret_tmp2 rfl ⟨rfl, rfl⟩
theorem foMany (w0 : World) (p : Nat) (F : Fo) (hF : F.Ok) : FnG w0 [] 43 [foV F, spP p] p F.many encIB := by
  obtain ⟨_, h1, h2⟩ := id hF
  intro s hS; have hG := At.start hS; generalize Pg.run _ s = R at hG ⊢
  refine fn_of_run en43 fn43 rfl rfl rfl ?_
  repeat (first | refine zck ?_ | refine zcl ?_ | refine zcm ?_ | refine zcn ?_)
  first | refine zcp (by kernel_rfl) ?_ | refine zcq PP_mixed (by kernel_rfl) (by kernel_rfl) ?_
  repeat' (refine zap rfl ?_; first | ((with_reducible refine zcv ?_); refine zan rfl ?_) | ((with_reducible refine zdg ?_); refine zaq (cs := [_, _, _, _]) rfl (fun nb => ?_)))
  all_goals refine zch ?_
  all_goals repeat (first | refine zck ?_ | refine zcl ?_ | refine zcm ?_ | refine zcn ?_)
  refine run_share [1] rfl ?_
  repeat' (first | refine zck ?_ | refine zcp (by kernel_rfl) ?_ | (refine zap rfl ?_; first | ((with_reducible refine zct ?_); first | refine zaj rfl ?_ | refine zak rfl ?_ | refine zam rfl rfl (fun _ => ?_) (fun _ => ?_)) | ((with_reducible refine zcu ?_); refine zan rfl ?_) | ((with_reducible refine zcv ?_); refine zan rfl ?_) | ((with_reducible refine zcw ?_); refine zaa 0 rfl rfl rfl ?_) | ((with_reducible refine zcx ?_); refine reg_callG [0] hG (getG w0 p _) rfl rfl rfl sub_nil (fun u s hG => ?_)) | ((with_reducible refine zcy ?_); refine zao rfl ?_) | ((with_reducible refine zda ?_); first | refine reg_addZ rfl rfl (by omega) ?_ | refine zbr rfl rfl ?_ | refine zbt rfl rfl ?_) | ((with_reducible refine zdc ?_); first | refine zbu rfl ?_ | refine zbv rfl ?_)) | refine zch ?_)
  all_goals rw [hG.done]
  all_goals (refine ret_tmp2 rfl ⟨?_, rfl⟩)
  all_goals refine congrArg Value.tuple (?_ : #[Value.int .i64 _, .bool _] = #[Value.int .i64 _, .bool _])
  all_goals simp_all
  all_goals omega
theorem foCheck (w0 : World) (p : Nat) (F : Fo) (hF : F.Ok) (x : Int) : FnG w0 [] 42 [foV F, spP p, .int .i64 x] p (F.check x) (.int .i64) := by
  obtain ⟨_, h1, h2⟩ := id hF
  intro s hS; have hG := At.start hS; generalize Pg.run _ s = R at hG ⊢
  refine fn_of_run en42 fn42 rfl rfl rfl ?_
  repeat (first | refine zck ?_ | refine zcl ?_ | refine zcm ?_ | refine zcn ?_)
  first | refine zcp (by kernel_rfl) ?_ | refine zcq PP_mixed (by kernel_rfl) (by kernel_rfl) ?_
  repeat' (refine zap rfl ?_; first | ((with_reducible refine zcv ?_); refine zan rfl ?_) | ((with_reducible refine zdg ?_); refine zaq (cs := [_, _, _, _]) rfl (fun nb => ?_)))
  all_goals refine zch ?_
  all_goals repeat (first | refine zck ?_ | refine zcl ?_ | refine zcm ?_ | refine zcn ?_)
  refine run_share [1] rfl ?_
  by_cases hx : x < 1
  · rw [Fo.check, if_pos hx] at hG
    rw [hG.done]
    repeat' (first | refine zck ?_ | refine zcp (by kernel_rfl) ?_ | (refine zap rfl ?_; first | ((with_reducible refine zct ?_); refine zak rfl ?_) | ((with_reducible refine zcu ?_); refine zan rfl ?_) | ((with_reducible refine zcv ?_); refine zan rfl ?_) | ((with_reducible refine zda ?_); refine zbg rfl rfl (by omega) ?_) | ((with_reducible refine zdc ?_); refine zbu rfl ?_)) | refine zch ?_ | refine zci rfl ?_)
    exact ret_tmp1 rfl ⟨rfl, rfl⟩
  · rw [Fo.check, if_neg hx] at hG
    repeat' (first | refine zck ?_ | refine zcp (by kernel_rfl) ?_ | refine zcm ?_ | (refine zap rfl ?_; first | ((with_reducible refine zct ?_); refine zaj rfl ?_) | ((with_reducible refine zcu ?_); refine zan rfl ?_) | ((with_reducible refine zcv ?_); refine zan rfl ?_) | ((with_reducible refine zcw ?_); refine zaa 0 rfl rfl rfl ?_) | ((with_reducible refine zcx ?_); refine reg_callG [0] hG (getG w0 p _) rfl rfl rfl sub_nil (fun u s hG => ?_)) | ((with_reducible refine zcy ?_); refine zao rfl ?_) | ((with_reducible refine zda ?_); first | refine zbh rfl rfl (by omega) ?_ | refine reg_addZ rfl rfl (by omega) ?_ | refine zbs rfl rfl ?_) | ((with_reducible refine zdc ?_); refine zbv rfl ?_)) | refine zch ?_ | refine run_cond rfl (fun _ => ?_) (fun _ => ?_))
    all_goals first | rw [if_pos (by omega)] at hG | rw [if_neg (by omega)] at hG
    all_goals rw [hG.done]
    · repeat' (first | refine zck ?_ | (refine zap rfl ?_; first | ((with_reducible refine zct ?_); first | refine zaj rfl ?_ | refine zak rfl ?_ | refine zal rfl ?_ | refine zam rfl rfl (fun _ => ?_) (fun _ => ?_))) | refine zch ?_)
      exact ret_tmp1 rfl ⟨rfl, rfl⟩
    · repeat' (first | refine zck ?_ | (refine zap rfl ?_; first | ((with_reducible refine zct ?_); first | refine zaj rfl ?_ | refine zak rfl ?_ | refine zal rfl ?_ | refine zam rfl rfl (fun _ => ?_) (fun _ => ?_))) | refine zch ?_)
      exact ret_tmp1 rfl ⟨rfl, rfl⟩
theorem foTake (w0 : World) (p : Nat) (F : Fo) (hF : F.Ok) : FnG w0 [] 68 [foV F, spP p] p F.take encI2 := by
  obtain ⟨_, h1, h2⟩ := id hF
  intro s hS; have hG := At.start hS; generalize Pg.run _ s = R at hG ⊢
  refine fn_of_run en68 fn68 rfl rfl rfl ?_
  repeat (first | refine zck ?_ | refine zcl ?_ | refine zcm ?_ | refine zcn ?_)
  first | refine zcp (by kernel_rfl) ?_ | refine zcq PP_mixed (by kernel_rfl) (by kernel_rfl) ?_
  repeat' (refine zap rfl ?_; first | ((with_reducible refine zcv ?_); refine zan rfl ?_) | ((with_reducible refine zdg ?_); refine zaq (cs := [_, _, _, _]) rfl (fun nb => ?_)))
  all_goals refine zch ?_
  all_goals repeat (first | refine zck ?_ | refine zcl ?_ | refine zcm ?_ | refine zcn ?_)
  refine run_share [1] rfl ?_
  repeat' (first | refine zck ?_ | refine zcp (by kernel_rfl) ?_ | (refine zap rfl ?_; first | ((with_reducible refine zcu ?_); refine zan rfl ?_) | ((with_reducible refine zcv ?_); refine zan rfl ?_) | ((with_reducible refine zcw ?_); refine zaa 0 rfl rfl rfl ?_) | ((with_reducible refine zcx ?_); refine reg_callG [0] hG (takeG w0 p F.pool hF.1) rfl rfl rfl sub_nil (fun u s hG => ?_)) | ((with_reducible refine zcy ?_); refine zao rfl ?_) | ((with_reducible refine zcz ?_); refine zan rfl ?_) | ((with_reducible refine zda ?_); refine zbp rfl rfl ?_)) | refine zch ?_)
  refine run_cond rfl (fun hE => ?_) (fun hE => ?_)
  · rw [if_pos hE] at hG
    rw [hG.done]
    repeat' (first | refine zck ?_ | refine zcp (by kernel_rfl) ?_ | (refine zap rfl ?_; first | ((with_reducible refine zcu ?_); refine zan rfl ?_) | ((with_reducible refine zcv ?_); refine zan rfl ?_)) | refine zch ?_)
    exact ret_tmp2 rfl ⟨rfl, rfl⟩
  · rw [if_neg hE] at hG
    repeat' (first | refine zck ?_ | refine zcp (by kernel_rfl) ?_ | refine zcq PP_mixed (by kernel_rfl) (by kernel_rfl) ?_ | refine zcm ?_ | (refine zap rfl ?_; first | refine reg_add (t := 2) rfl rfl ?_ | ((with_reducible refine zcu ?_); refine zan rfl ?_) | ((with_reducible refine zcv ?_); refine zan rfl ?_) | ((with_reducible refine zcw ?_); refine zaa 0 rfl rfl rfl ?_) | ((with_reducible refine zcx ?_); first | refine reg_callG [0] hG (getG w0 p _) rfl rfl rfl sub_nil (fun u s hG => ?_) | refine reg_callG [0] hG (putG w0 p _ _) rfl rfl rfl sub_nil (fun u s hG => ?_)) | ((with_reducible refine zcy ?_); refine zao rfl ?_) | ((with_reducible refine zda ?_); refine zau rfl rfl (by omega) ?_)) | refine zch ?_)
    rw [hG.done]
    exact ret_tmp2 rfl ⟨rfl, rfl⟩
theorem foAdd (w0 : World) (p : Nat) (a m : Int) : FnG w0 [] 51 [spP p, .int .i64 a, .int .i64 m] p (Fo.add a m) encU := by
  intro s hS; have hG := At.start hS; generalize Pg.run _ s = R at hG ⊢
  refine fn_of_run en51 fn51 rfl rfl rfl ?_
  repeat' (first | refine zcp (by kernel_rfl) ?_ | (refine zap rfl ?_; first | refine reg_add (t := 2) rfl rfl ?_ | ((with_reducible refine zcu ?_); refine zan rfl ?_) | ((with_reducible refine zcx ?_); first | refine reg_callG [0] hG (getG w0 p _) rfl rfl rfl sub_nil (fun u s hG => ?_) | refine reg_callG [0] hG (putG w0 p _ _) rfl rfl rfl sub_nil (fun u s hG => ?_))) | refine zch ?_)
  rw [hG.done]
  exact end_tmp0 rfl ⟨rfl, rfl⟩
end Go.Proofs.Ytpcnbaddkblbhaa

