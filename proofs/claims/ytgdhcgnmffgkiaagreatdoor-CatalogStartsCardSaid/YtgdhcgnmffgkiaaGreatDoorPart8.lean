import Derived.Test.YtgdhcgnmffgkiaaGreatDoorPart7
import Derived.Test.YtgdhcgnmffgkiaaGreatDoorPart5
import Derived.Test.YtgdhcgnmffgkiaaGreatDoorKit
import Derived.Test.YtgdhcgnmffgkiaaGreatDoorPart6
import Derived.Test.YtgdhcgnmffgkiaaGreatDoorPart3
/- Lemmas and walks for the claims of this seat (own work): Ar13 Gh4 Gh5 Gh6 Gh7 Gh8 Cx3 Cx4 Rc0 Rc1. -/
namespace Go.Proofs.YtgdhcgnmffgkiaaGreatDoor
open Go.Vc Sim
set_option maxHeartbeats 4000000
theorem pop_spec (w0 : World) (hw : PowOk w0) (p : Nat) (A : Ar) (hA : A.Ok) (s : Sp) (hsm : Sm s 24) :
    Vc.Fn PP w0 [] 80 [arrV A, spP p] [SpaceA p s] (pushRV p (A.pop s)) := by
  obtain ⟨_, h1, h2⟩ := id hA
  obtain ⟨T, fr, hw2⟩ := id hw
  generalize hm : A.many s = m
  have hsm2 : Sm m.2.2.2 24 := hm ▸ sm_many hsm
  have hM := many_spec w0 hw p A hA s (hsm.mono (by decide))
  rw [hm] at hM
  have hmo := many_ok (A := A) (s := s)
  rw [hm] at hmo
  refine fn_of_run en80 fn80 rfl rfl rfl ?_
  repeat (first | refine zck ?_ | refine zcl ?_ | refine zcm ?_ | refine zcn ?_)
  first | refine zcp (by kernel_rfl) ?_ | refine zcq PP_mixed (by kernel_rfl) (by kernel_rfl) ?_
  repeat' (refine zap rfl ?_; first | refine zaq (cs := [_]) rfl (fun nb => ?_) | refine zaq (cs := [_, _, _, _]) rfl (fun nb => ?_) | refine zar (fun nb => ?_))
  all_goals refine zch ?_
  all_goals repeat (first | refine zck ?_ | refine zcl ?_ | refine zcm ?_ | refine zcn ?_)
  rename_i b2 b3 vb
  revert nb; intro eb
  refine run_share [1] rfl ?_
  refine run_share_keep [1] rfl ?_
  repeat (first | refine zck ?_ | refine zcl ?_ | refine zcm ?_ | refine zcn ?_)
  first | refine zcp (by kernel_rfl) ?_ | refine zcq PP_mixed (by kernel_rfl) (by kernel_rfl) ?_
  repeat' (refine zap rfl ?_; first | refine zan rfl ?_ | refine zan rfl ?_ | refine zaa 0 rfl rfl rfl ?_ | refine zaa 1 rfl rfl rfl ?_ | refine zah [0] hM rfl rfl rfl sub_nil rfl ?_ | refine zan rfl ?_)
  all_goals refine zch ?_
  all_goals repeat (first | refine zck ?_ | refine zcl ?_ | refine zcm ?_ | refine zcn ?_)
  repeat (first | refine zck ?_ | refine zcl ?_ | refine zcm ?_ | refine zcn ?_)
  first | refine zcp (by kernel_rfl) ?_ | refine zcq PP_mixed (by kernel_rfl) (by kernel_rfl) ?_
  repeat' (refine zap rfl ?_; first | refine zan rfl ?_ | refine zan rfl ?_ | refine zbo rfl rfl ?_)
  all_goals refine zch ?_
  all_goals repeat (first | refine zck ?_ | refine zcl ?_ | refine zcm ?_ | refine zcn ?_)
  refine run_slots [(2, ptrA b2), (3, ptrA b3), (4, ptrA vb), (5, ptrA eb), (6, .int .i64 m.1), (7, .int .i64 m.2.1), (8, .bool m.2.2.1), (26, .bool (decide (m.1 = 0)))] ⟨rfl, rfl, rfl, rfl, rfl, rfl, rfl, rfl, trivial⟩ (fun junk => ?_)
  refine run_cond rfl (fun hZ => ?_) (fun hZ => ?_)
  · have e : A.pop s = (0, 8, m.2.2.2) := by simp only [Ar.pop, hm]; rw [if_pos hZ]
    repeat' (first | refine zck ?_ | refine zcp (by kernel_rfl) ?_ | (refine zap rfl ?_; first | refine zae 1 rfl rfl rfl rfl rfl rfl rfl ?_ | refine zae 2 rfl rfl rfl rfl rfl rfl rfl ?_) | refine zch ?_)
    rw [e]
    exact run_ret (leaves_nil (ends_take [0] rfl (ends_two rfl (resOk_pt 1 rfl rfl rfl) (resOk_pt 2 rfl rfl rfl) ⟨rfl, rfl, rfl⟩)))
  repeat (first | refine zck ?_ | refine zcl ?_ | refine zcm ?_ | refine zcn ?_)
  first | refine zcp (by kernel_rfl) ?_ | refine zcq PP_mixed (by kernel_rfl) (by kernel_rfl) ?_
  repeat' (refine zap rfl ?_; first | refine zan rfl ?_ | refine zan rfl ?_ | refine zbx rfl ?_)
  all_goals refine zch ?_
  all_goals repeat (first | refine zck ?_ | refine zcl ?_ | refine zcm ?_ | refine zcn ?_)
  refine run_slots [(2, ptrA b2), (3, ptrA b3), (4, ptrA vb), (5, ptrA eb), (6, .int .i64 m.1), (7, .int .i64 m.2.1), (29, .bool (!m.2.2.1))] ⟨rfl, rfl, rfl, rfl, rfl, rfl, rfl, trivial⟩ (fun junk => ?_)
  refine run_condV rfl (fun hE => ?_) (fun hE => ?_)
  · have hE : m.2.2.1 = false := by simpa using hE
    have e : A.pop s = (0, 24, m.2.2.2) := by simp only [Ar.pop, hm]; rw [if_neg hZ, hE, if_neg (by decide)]
    repeat' (first | refine zck ?_ | refine zcp (by kernel_rfl) ?_ | (refine zap rfl ?_; first | refine zae 1 rfl rfl rfl rfl rfl rfl rfl ?_ | refine zae 2 rfl rfl rfl rfl rfl rfl rfl ?_) | refine zch ?_)
    rw [e]
    exact run_ret (leaves_nil (ends_take [0] rfl (ends_two rfl (resOk_pt 1 rfl rfl rfl) (resOk_pt 2 rfl rfl rfl) ⟨rfl, rfl, rfl⟩)))
  have hE : m.2.2.1 = true := by simpa using hE
  obtain ⟨_, hn0, hn1, hn2⟩ := hmo hE
  have e : A.pop s = Ar.undoPop m.2.2.2.puts.length (A.popIn m.1 m.2.1.toNat m.2.2.2) := by simp only [Ar.pop, hm]; rw [if_neg hZ, if_pos hE]
  rw [e]
  have hd4 := dep_le m.1
  have hd5 := dep_le (m.1 - 1)
  have hd6 : 0 < dep m.1 := by unfold dep; (repeat' split) <;> omega
  have hd7 : dep (m.1 - 1) ≤ dep m.1 := by unfold dep; (repeat' split) <;> omega
  have hdd : m.2.1.toNat = dep m.1 := by omega
  rw [hdd, hn2]
  generalize hmk : m.2.2.2.puts.length = mk
  generalize dep m.1 = d at *
  generalize hnn : m.1 = n at *
  generalize hss : m.2.2.2 = t at *
  have hMk := mark_spec w0 p t
  rw [hmk] at hMk
  repeat (first | refine zck ?_ | refine zcl ?_ | refine zcm ?_ | refine zcn ?_)
  first | refine zcp (by kernel_rfl) ?_ | refine zcq PP_mixed (by kernel_rfl) (by kernel_rfl) ?_
  repeat' (refine zap rfl ?_; first | refine zaa 0 rfl rfl rfl ?_ | refine zah [0] hMk rfl rfl rfl sub_nil rfl ?_ | refine zae 3 rfl rfl rfl rfl rfl rfl rfl ?_ | refine zar (fun nb => ?_))
  all_goals refine zch ?_
  all_goals repeat (first | refine zck ?_ | refine zcl ?_ | refine zcm ?_ | refine zcn ?_)
  have fin := pop_fin w0 p b3 nb eb vb mk (A.popIn n d t)
  repeat (first | refine zck ?_ | refine zcl ?_ | refine zcm ?_ | refine zcn ?_)
  first | refine zcp (by kernel_rfl) ?_ | refine zcq PP_mixed (by kernel_rfl) (by kernel_rfl) ?_
  repeat' (refine zap rfl ?_; first | refine zcd rfl rfl ?_ | refine zan rfl ?_)
  all_goals refine zch ?_
  all_goals repeat (first | refine zck ?_ | refine zcl ?_ | refine zcm ?_ | refine zcn ?_)
  refine run_slots [(2, ptrA b2), (3, ptrA b3), (4, ptrA vb), (5, ptrA eb), (6, .int .i64 n), (7, .int .i64 (d : Int))] ⟨rfl, rfl, rfl, rfl, rfl, rfl, trivial⟩ (fun junk => ?_)
  show Run PP w0 _ _ _ _ _ [popD b3 nb eb vb] [SpaceA p t, vV vb 0, eV eb 0, mVA nb mk]
  have hWs := way_spec w0 hw p A hA (n - 1) (by omega) d hd4 (d : Int) rfl t (hsm2.mono (by decide))
  have hWl := way_len A (n - 1) d A.root t []
  have hsm4 : Sm (A.way (n - 1) d A.root t []).2 24 := sm_way hsm2
  have hr : A.popIn n d t = A.popIn n d t := rfl
  conv at hr => rhs; unfold Ar.popIn
  generalize hW : A.way (n - 1) d A.root t [] = W at hr hWs hWl hsm4
  obtain ⟨o, t2⟩ := W
  cases o with
  | none =>
    have hWn : FnE PP w0 [] 167 [arrV A, spP p, .int .i64 (n - 1), .int .i64 d] [SpaceA p t] (.tuple #[.slice none 0 0, .bool false]) [SpaceA p t2] := hWs
    repeat' (first | refine zck ?_ | refine zcp (by kernel_rfl) ?_ | (refine zap rfl ?_; first | refine zan rfl ?_ | refine zan rfl ?_ | refine zaa 0 rfl rfl rfl ?_ | refine zaa 1 rfl rfl rfl ?_ | refine zah [0] hWn rfl rfl rfl sub_nil rfl ?_ | refine zan rfl ?_ | refine zav rfl rfl (by omega) ?_ | refine zbx rfl ?_ | refine zae 1 rfl rfl rfl rfl rfl rfl rfl ?_ | refine zae 2 rfl rfl rfl rfl rfl rfl rfl ?_) | refine zch ?_ | refine zci rfl ?_)
    exact run_ret (fin _ _ _ _ rfl rfl hr)
  | some l =>
    have hl : l.length = d := by have := (hWl l rfl).1; simpa using this
    have hlb : ∀ x ∈ l, 0 ≤ x ∧ x ≤ 4096 := (hWl l rfl).2 (by simp)
    have hgD : ∀ k, k < d → l[k]? = some (l.getD k 0) ∧ 0 ≤ l.getD k 0 ∧ l.getD k 0 ≤ 4096 := fun k hk => by
      have h1 : l[k]? = some l[k] := List.getElem?_eq_getElem (by omega)
      have h2 : l.getD k 0 = l[k] := by simp [List.getD, h1]
      rw [h2]; exact ⟨h1, hlb _ (List.getElem_mem _)⟩
    dsimp only at hr hsm4
    repeat (first | refine zck ?_ | refine zcl ?_ | refine zcm ?_ | refine zcn ?_)
    first | refine zcp (by kernel_rfl) ?_ | refine zcq PP_mixed (by kernel_rfl) (by kernel_rfl) ?_
    repeat' (refine zap rfl ?_; first | (refine zai [0] hWs rfl rfl rfl sub_nil ?_; rintro v Γ' ⟨a, cap, rfl, rfl⟩) | refine zan rfl ?_ | refine zan rfl ?_ | refine zaa 0 rfl rfl rfl ?_ | refine zaa 1 rfl rfl rfl ?_ | refine zan rfl ?_ | refine zav rfl rfl (by omega) ?_)
    all_goals refine zch ?_
    all_goals repeat (first | refine zck ?_ | refine zcl ?_ | refine zcm ?_ | refine zcn ?_)
    repeat (first | refine zck ?_ | refine zcl ?_ | refine zcm ?_ | refine zcn ?_)
    first | refine zcp (by kernel_rfl) ?_ | refine zcq PP_mixed (by kernel_rfl) (by kernel_rfl) ?_
    repeat' (refine zap rfl ?_; first | refine zan rfl ?_ | refine zbx rfl ?_)
    all_goals refine zch ?_
    all_goals repeat (first | refine zck ?_ | refine zcl ?_ | refine zcm ?_ | refine zcn ?_)
    refine zcj rfl ?_
    refine run_sl_cases 1 rfl (fun _ hz _ _ => absurd hz (by omega)) ?_
    intro lb e1 e2 e3
    subst e1
    refine run_share_sl [1] rfl (fun spare => ?_)
    have hrd : ∀ k, k < d → ∀ o, o = k → rd false 1 (intL l ++ spare) o = some (.int .i64 (l.getD k 0)) := by
      intro k hk o ho; subst ho; exact rd_append (intL_get _ _ _ (hgD _ hk).1) (by intro h; cases h)
    refine run_slots [(2, ptrA b2), (3, ptrA b3), (4, ptrA vb), (5, ptrA eb), (6, .int .i64 n), (7, .int .i64 (d : Int)), (10, .slice (some ⟨lb, 0, none⟩) l.length cap)] ⟨rfl, rfl, rfl, rfl, rfl, rfl, rfl, trivial⟩ (fun junk => ?_)
    have hdg := dig_bd (n - 1) 1
    have hld := hgD (d - 1) (by omega)
    have hl0 := hgD 0 (by omega)
    have hG := getS w0 p t2 (l.getD (d - 1) 0 + digA (n - 1) 1) (hsm4.mono (by decide))
    have hsm5 : Sm (t2.get (l.getD (d - 1) 0 + digA (n - 1) 1)).2 24 := sm_get hsm4
    generalize t2.get (l.getD (d - 1) 0 + digA (n - 1) 1) = g at hr hG hsm5
    repeat (first | refine zck ?_ | refine zcl ?_ | refine zcm ?_ | refine zcn ?_ | refine zco ?_)
    repeat (first | refine zck ?_ | refine zcl ?_ | refine zcm ?_ | refine zcn ?_)
    first | refine zcp (by kernel_rfl) ?_ | refine zcq PP_mixed (by kernel_rfl) (by kernel_rfl) ?_
    repeat' (refine zap rfl ?_; first | refine zaa 0 rfl rfl (hrd (d - 1) (by omega) _ (by omega)) ?_ | refine zan rfl ?_ | refine zaa 1 rfl rfl rfl ?_ | refine zah [] (digit_spec w0 hw (n - 1) 1 (by omega) (by omega) _ rfl) rfl rfl rfl sub_nil rfl ?_ | refine zah [0] hG rfl rfl rfl sub_nil rfl ?_ | refine zau rfl rfl (by omega) ?_ | refine zav rfl rfl (by omega) ?_ | refine zae 1 rfl rfl rfl rfl rfl rfl rfl ?_ | refine zas rfl rfl (by omega) ?_)
    all_goals refine zch ?_
    all_goals repeat (first | refine zck ?_ | refine zcl ?_ | refine zcm ?_ | refine zcn ?_)
    repeat (first | refine zck ?_ | refine zcl ?_ | refine zcm ?_ | refine zcn ?_)
    first | refine zcp (by kernel_rfl) ?_ | refine zcq PP_mixed (by kernel_rfl) (by kernel_rfl) ?_
    repeat' (refine zap rfl ?_; first | refine zan rfl ?_ | refine zan rfl ?_ | refine zah [] (depth_spec w0 hw _) rfl rfl rfl sub_nil rfl ?_ | refine zav rfl rfl (by omega) ?_)
    all_goals refine zch ?_
    all_goals repeat (first | refine zck ?_ | refine zcl ?_ | refine zcm ?_ | refine zcn ?_)
    repeat (first | refine zck ?_ | refine zcl ?_ | refine zcm ?_ | refine zcn ?_)
    first | refine zcp (by kernel_rfl) ?_ | refine zcq PP_mixed (by kernel_rfl) (by kernel_rfl) ?_
    repeat' (refine zap rfl ?_; first | refine zan rfl ?_)
    all_goals refine zch ?_
    all_goals repeat (first | refine zck ?_ | refine zcl ?_ | refine zcm ?_ | refine zcn ?_)
    repeat (first | refine zck ?_ | refine zcl ?_ | refine zcm ?_ | refine zcn ?_)
    first | refine zcp (by kernel_rfl) ?_ | refine zcq PP_mixed (by kernel_rfl) (by kernel_rfl) ?_
    repeat' (refine zap rfl ?_; first | refine zan rfl ?_ | refine zbs rfl rfl ?_)
    all_goals refine zch ?_
    all_goals repeat (first | refine zck ?_ | refine zcl ?_ | refine zcm ?_ | refine zcn ?_)
    generalize hnow : dep (n - 1) = now at *
    refine run_slots [(2, ptrA b2), (3, ptrA b3), (4, ptrA vb), (5, ptrA eb), (6, .int .i64 n), (7, .int .i64 (d : Int)), (10, .slice (some ⟨lb, 0, none⟩) l.length cap), (11, .int .i64 now), (12, .int .i64 0), (61, .bool (decide (0 < now)))] ⟨rfl, rfl, rfl, rfl, rfl, rfl, rfl, rfl, rfl, bool_eq (dec_eq (by omega)), trivial⟩ (fun junk => ?_)
    refine run_join (S := Int) (fun top => [(2, ptrA b2), (3, ptrA b3), (4, ptrA vb), (5, ptrA eb), (6, .int .i64 n), (7, .int .i64 (d : Int)), (10, .slice (some ⟨lb, 0, none⟩) l.length cap), (11, .int .i64 now), (12, .int .i64 top)])
      (fun top Γ => Γ = [SpaceA p g.2, vV vb g.1, eV eb 0, mVA nb mk] ∧ top = if 0 < now then l.getD 0 0 else 0) ?_ ?_
    · by_cases h0 : 0 < now
      · refine zci (bool_eq (decide_eq_true h0)) ?_
        repeat' (first | refine zcp (by kernel_rfl) ?_ | (refine zap rfl ?_; first | refine zaa 0 rfl rfl (hrd 0 (by omega) _ (by omega)) ?_ | refine zan rfl ?_ | refine zan rfl ?_ | refine zas rfl rfl (by omega) ?_) | refine zch ?_)
        exact cut_end ⟨rfl, _, ⟨rfl, rfl, rfl, rfl, rfl, rfl, rfl, rfl, rfl, trivial⟩, ⟨rfl, by rw [if_pos h0]⟩⟩
      · refine zcj (bool_eq (decide_eq_false h0)) ?_
        repeat (first | refine zck ?_ | refine zcl ?_ | refine zcm ?_ | refine zcn ?_ | refine zco ?_)
        exact cut_end ⟨rfl, _, ⟨rfl, rfl, rfl, rfl, rfl, rfl, rfl, rfl, rfl, trivial⟩, ⟨rfl, by rw [if_neg h0]⟩⟩
    rintro top Γ' junk ⟨rfl, htop⟩
    repeat (first | refine zck ?_ | refine zcl ?_ | refine zcm ?_ | refine zcn ?_ | refine zco ?_)
    refine run_join (S := Unit) (fun _ => [(2, ptrA b2), (3, ptrA b3), (4, ptrA vb), (5, ptrA eb), (6, .int .i64 n), (7, .int .i64 (d : Int)), (10, .slice (some ⟨lb, 0, none⟩) l.length cap), (11, .int .i64 now), (12, .int .i64 top), (71, .bool (decide (0 < now ∧ now < d)))])
      (fun _ Γ => Γ = [SpaceA p g.2, vV vb g.1, eV eb 0, mVA nb mk]) ?_ ?_
    · by_cases h0 : 0 < now
      · by_cases h1 : now < d
        · have d0 : decide ((0 : Int) < (now : Int)) = true := decide_eq_true (by omega)
          have d1 : decide ((now : Int) < (d : Int)) = true := decide_eq_true (by omega)
          repeat' (first | refine zcp (by kernel_rfl) ?_ | (refine zap rfl ?_; first | (refine zbs rfl rfl ?_; rw [d0]) | (refine zbq rfl rfl ?_; rw [d1]) | refine zaj rfl ?_ | refine zan rfl ?_ | refine zbu rfl ?_) | refine zch ?_)
          exact cut_end ⟨rfl, (), ⟨rfl, rfl, rfl, rfl, rfl, rfl, rfl, rfl, rfl, bool_eq (by simp [h0, h1]), trivial⟩, rfl⟩
        · have d0 : decide ((0 : Int) < (now : Int)) = true := decide_eq_true (by omega)
          have d1 : decide ((now : Int) < (d : Int)) = false := decide_eq_false (by omega)
          repeat' (first | refine zcp (by kernel_rfl) ?_ | (refine zap rfl ?_; first | (refine zbs rfl rfl ?_; rw [d0]) | (refine zbq rfl rfl ?_; rw [d1]) | refine zaj rfl ?_ | refine zan rfl ?_ | refine zbu rfl ?_) | refine zch ?_)
          exact cut_end ⟨rfl, (), ⟨rfl, rfl, rfl, rfl, rfl, rfl, rfl, rfl, rfl, bool_eq (by simp [h1]), trivial⟩, rfl⟩
      · have d0 : decide ((0 : Int) < (now : Int)) = false := decide_eq_false (by omega)
        repeat' (first | refine zcp (by kernel_rfl) ?_ | (refine zap rfl ?_; first | (refine zbs rfl rfl ?_; rw [d0]) | refine zak rfl ?_ | refine zan rfl ?_ | refine zbv rfl ?_) | refine zch ?_)
        exact cut_end ⟨rfl, (), ⟨rfl, rfl, rfl, rfl, rfl, rfl, rfl, rfl, rfl, bool_eq (by simp [h0]), trivial⟩, rfl⟩
    rintro _ Γ' junk rfl
    repeat (first | refine zck ?_ | refine zcl ?_ | refine zcm ?_ | refine zcn ?_ | refine zco ?_)
    refine run_join (S := Int × Sp) (fun st => [(2, ptrA b2), (3, ptrA b3), (4, ptrA vb), (5, ptrA eb), (6, .int .i64 n), (7, .int .i64 (d : Int)), (10, .slice (some ⟨lb, 0, none⟩) l.length cap), (11, .int .i64 now), (12, .int .i64 st.1)])
      (fun st Γ => Γ = [SpaceA p st.2, vV vb g.1, eV eb 0, mVA nb mk] ∧ Sm st.2 24 ∧ A.popIn n d t = A.popOn n d now l g.1 st.1 st.2) ?_ ?_
    · by_cases hc : 0 < now ∧ now < d
      · refine zci (bool_eq (decide_eq_true hc)) ?_
        rw [if_pos hc] at hr
        have hN := anode_spec w0 p A hA g.2 (l.getD 0 0) (hsm5.mono (by decide))
        have hsm6 : Sm (A.node g.2 (l.getD 0 0)).2.2 24 := sm_node hsm5
        generalize A.node g.2 (l.getD 0 0) = x at hr hN hsm6
        repeat (first | refine zck ?_ | refine zcl ?_ | refine zcm ?_ | refine zcn ?_)
        first | refine zcp (by kernel_rfl) ?_ | refine zcq PP_mixed (by kernel_rfl) (by kernel_rfl) ?_
        repeat' (refine zap rfl ?_; first | refine zaa 0 rfl rfl (hrd 0 (by omega) _ (by omega)) ?_ | refine zan rfl ?_ | refine zan rfl ?_ | refine zaa 1 rfl rfl rfl ?_ | refine zaa 2 rfl rfl rfl ?_ | refine zah [0] hN rfl rfl rfl sub_nil rfl ?_ | refine zan rfl ?_ | refine zas rfl rfl (by omega) ?_)
        all_goals refine zch ?_
        all_goals repeat (first | refine zck ?_ | refine zcl ?_ | refine zcm ?_ | refine zcn ?_)
        repeat (first | refine zck ?_ | refine zcl ?_ | refine zcm ?_ | refine zcn ?_)
        first | refine zcp (by kernel_rfl) ?_ | refine zcq PP_mixed (by kernel_rfl) (by kernel_rfl) ?_
        repeat' (refine zap rfl ?_; first | refine zan rfl ?_ | refine zbx rfl ?_)
        all_goals refine zch ?_
        all_goals repeat (first | refine zck ?_ | refine zcl ?_ | refine zcm ?_ | refine zcn ?_)
        refine run_condV rfl (fun hE => ?_) (fun hE => ?_)
        · have hE : x.2.1 = false := by simpa using hE
          rw [hE, if_neg (by decide)] at hr
          repeat' (first | refine zck ?_ | refine zcp (by kernel_rfl) ?_ | (refine zap rfl ?_; first | refine zae 1 rfl rfl rfl rfl rfl rfl rfl ?_ | refine zae 2 rfl rfl rfl rfl rfl rfl rfl ?_) | refine zch ?_)
          exact run_ret (fin _ _ _ _ rfl rfl hr)
        · have hE : x.2.1 = true := by simpa using hE
          rw [if_pos hE] at hr
          repeat' (first | refine zcp (by kernel_rfl) ?_ | refine zcm ?_ | (refine zap rfl ?_; first | refine zan rfl ?_ | refine zan rfl ?_) | refine zch ?_)
          exact cut_end ⟨rfl, (x.1, x.2.2), ⟨rfl, rfl, rfl, rfl, rfl, rfl, rfl, rfl, rfl, trivial⟩, ⟨rfl, hsm6, hr⟩⟩
      · refine zcj (bool_eq (decide_eq_false hc)) ?_
        rw [if_neg hc, ← htop] at hr
        repeat (first | refine zck ?_ | refine zcl ?_ | refine zcm ?_ | refine zcn ?_ | refine zco ?_)
        exact cut_end ⟨rfl, (top, g.2), ⟨rfl, rfl, rfl, rfl, rfl, rfl, rfl, rfl, rfl, trivial⟩, ⟨rfl, hsm5, hr⟩⟩
    rintro ⟨top, s3⟩ Γ' junk ⟨rfl, hsm6, hr2⟩
    dsimp only at hsm6 hr2 ⊢
    have hr3 : A.popIn n d t = (if (A.gives n d now l 0 0 s3).1 = 0 then (g.1, 0, A.fell n d now top (A.gives n d now l 0 0 s3).2.1 (A.gives n d now l 0 0 s3).2.2) else (0, (A.gives n d now l 0 0 s3).1, (A.gives n d now l 0 0 s3).2.2)) := hr2
    repeat (first | refine zck ?_ | refine zcl ?_ | refine zcm ?_ | refine zcn ?_ | refine zco ?_)
    repeat (first | refine zck ?_ | refine zcl ?_ | refine zcm ?_ | refine zcn ?_)
    first | refine zcp (by kernel_rfl) ?_ | refine zcq PP_mixed (by kernel_rfl) (by kernel_rfl) ?_
    repeat' (refine zap rfl ?_; first | refine zan rfl ?_)
    all_goals refine zch ?_
    all_goals repeat (first | refine zck ?_ | refine zcl ?_ | refine zcm ?_ | refine zcn ?_)
    repeat (first | refine zck ?_ | refine zcl ?_ | refine zcm ?_ | refine zcn ?_)
    first | refine zcp (by kernel_rfl) ?_ | refine zcq PP_mixed (by kernel_rfl) (by kernel_rfl) ?_
    repeat' (refine zap rfl ?_; first | refine zan rfl ?_ | refine zce rfl ?_)
    all_goals refine zch ?_
    all_goals repeat (first | refine zck ?_ | refine zcl ?_ | refine zcm ?_ | refine zcn ?_)
    refine run_loop (S := Nat × Int × Sp) (fun st => [(2, ptrA b2), (3, ptrA b3), (4, ptrA vb), (5, ptrA eb), (6, .int .i64 n), (7, .int .i64 (d : Int)), (11, .int .i64 now), (12, .int .i64 top), (15, .int .i64 st.2.1), (84, .slice (some ⟨lb, 0, none⟩) l.length cap), (85, .int .i64 l.length), (86, .int .i64 (st.1 : Int))])
      (fun st Γ => Γ = [SpaceA p st.2.2, vV vb g.1, eV eb 0, mVA nb mk] ∧ st.1 ≤ d ∧ Sm st.2.2 (4 + 3 * (d - st.1)) ∧ (0 ≤ st.2.1 ∧ st.2.1 ≤ st.1) ∧ A.gives n d now l 0 0 s3 = A.gives n d now (l.drop st.1) st.1 st.2.1 st.2.2)
      (fun st => d - st.1) (0, 0, s3) ⟨rfl, rfl, rfl, rfl, rfl, rfl, rfl, rfl, rfl, rfl, rfl, rfl, trivial⟩ ⟨rfl, Nat.zero_le _, hsm6.mono (by dsimp only; omega), ⟨Int.le_refl _, Int.le_refl _⟩, rfl⟩ ?_
    rintro ⟨i, gone, s4⟩ Γ' junk ⟨rfl, hid, hsm7, hgb, hgv⟩
    dsimp only at hid hsm7 hgb hgv ⊢
    rw [hgv] at hr3
    by_cases hi : i < d
    rotate_left
    · have hid2 : i = d := by omega
      subst hid2
      rw [show l.drop i = [] from by rw [List.drop_eq_nil_iff]; omega] at hr3
      have hg0 : A.gives n i now [] i gone s4 = (0, gone, s4) := rfl
      rw [hg0] at hr3
      dsimp only at hr3
      rw [if_pos rfl] at hr3
      repeat (first | refine zck ?_ | refine zcl ?_ | refine zcm ?_ | refine zcn ?_)
      first | refine zcp (by kernel_rfl) ?_ | refine zcq PP_mixed (by kernel_rfl) (by kernel_rfl) ?_
      repeat' (refine zap rfl ?_; first | refine zbq rfl rfl ?_)
      all_goals refine zch ?_
      all_goals repeat (first | refine zck ?_ | refine zcl ?_ | refine zcm ?_ | refine zcn ?_)
      refine zcj (bool_eq (decide_eq_false (by omega))) ?_
      repeat (first | refine zck ?_ | refine zcl ?_ | refine zcm ?_ | refine zcn ?_ | refine zco ?_)
      refine cut_exit rfl rfl ?_
      have hsm8 : Sm s4 4 := hsm7.mono (by omega)
      unfold Ar.fell at hr3
      dsimp only at hr3
      repeat (first | refine zck ?_ | refine zcl ?_ | refine zcm ?_ | refine zcn ?_ | refine zco ?_)
      repeat (first | refine zck ?_ | refine zcl ?_ | refine zcm ?_ | refine zcn ?_)
      first | refine zcp (by kernel_rfl) ?_ | refine zcq PP_mixed (by kernel_rfl) (by kernel_rfl) ?_
      repeat' (refine zap rfl ?_; first | refine zan rfl ?_ | refine zbs rfl rfl ?_)
      all_goals refine zch ?_
      all_goals repeat (first | refine zck ?_ | refine zcl ?_ | refine zcm ?_ | refine zcn ?_)
      refine run_join (S := Sp) (fun _ => [(2, ptrA b2), (3, ptrA b3), (4, ptrA vb), (5, ptrA eb), (6, .int .i64 n), (7, .int .i64 (i : Int)), (11, .int .i64 now), (12, .int .i64 top)])
        (fun st Γ => Γ = [SpaceA p st, vV vb g.1, eV eb 0, mVA nb mk] ∧ Sm st 3 ∧ (if 0 < gone then (s4.get (A.root + 7)).2.put (A.root + 7) (w64 ((s4.get (A.root + 7)).1 - gone)) else s4) = st) ?_ ?_
      · by_cases hz : 0 < gone
        · refine zci (bool_eq (decide_eq_true hz)) ?_
          have hsm := hsm8
          repeat' (first | refine zcq PP_mixed (by kernel_rfl) (by kernel_rfl) ?_ | (refine zap rfl ?_; first | refine reg_sub (t := 2) rfl rfl ?_ | refine zan rfl ?_ | refine zaa 1 rfl rfl rfl ?_ | refine zaa 2 rfl rfl rfl ?_ | refine zah [0] (getS w0 p _ _ (by first | exact hsm.mono (by decide) | (repeat (first | refine sm_get ?_ | refine sm_put ?_ | refine sm_node ?_ | refine sm_take ?_ | refine sm_many ?_ | refine sm_way ?_ | refine sm_poolTake ?_ | refine sm_give ?_ | refine sm_place ?_)); exact hsm.mono (by decide))) rfl rfl rfl sub_nil rfl ?_ | refine zah [0] (putS w0 p _ _ _ (by first | exact hsm.mono (by decide) | (repeat (first | refine sm_get ?_ | refine sm_put ?_ | refine sm_node ?_ | refine sm_take ?_ | refine sm_many ?_ | refine sm_way ?_ | refine sm_poolTake ?_ | refine sm_give ?_ | refine sm_place ?_)); exact hsm.mono (by decide))) rfl rfl rfl sub_nil rfl ?_ | refine zao rfl ?_ | refine zau rfl rfl (by omega) ?_) | refine zch ?_)
          exact cut_end ⟨rfl, _, ⟨rfl, rfl, rfl, rfl, rfl, rfl, rfl, rfl, trivial⟩, ⟨rfl, sm_put (sm_get hsm8), by rw [if_pos hz]; rfl⟩⟩
        · refine zcj (bool_eq (decide_eq_false hz)) ?_
          repeat (first | refine zck ?_ | refine zcl ?_ | refine zcm ?_ | refine zcn ?_ | refine zco ?_)
          exact cut_end ⟨rfl, _, ⟨rfl, rfl, rfl, rfl, rfl, rfl, rfl, rfl, trivial⟩, ⟨rfl, hsm8.mono (by decide), by rw [if_neg hz]⟩⟩
      rintro s5 Γ' junk ⟨rfl, hsm9, he5⟩
      rw [he5] at hr3
      repeat (first | refine zck ?_ | refine zcl ?_ | refine zcm ?_ | refine zcn ?_ | refine zco ?_)
      repeat (first | refine zck ?_ | refine zcl ?_ | refine zcm ?_ | refine zcn ?_)
      first | refine zcp (by kernel_rfl) ?_ | refine zcq PP_mixed (by kernel_rfl) (by kernel_rfl) ?_
      repeat' (refine zap rfl ?_; first | refine zan rfl ?_ | refine zbq rfl rfl ?_)
      all_goals refine zch ?_
      all_goals repeat (first | refine zck ?_ | refine zcl ?_ | refine zcm ?_ | refine zcn ?_)
      refine run_join (S := Sp) (fun _ => [(2, ptrA b2), (3, ptrA b3), (4, ptrA vb), (5, ptrA eb), (6, .int .i64 n)])
        (fun st Γ => Γ = [SpaceA p st, vV vb g.1, eV eb 0, mVA nb mk] ∧ Sm st 1 ∧ (if now < i then (s5.put A.root top).put (A.root + 2) now else s5) = st) ?_ ?_
      · by_cases hz : now < i
        · refine zci (bool_eq (decide_eq_true (by omega))) ?_
          have hsm := hsm9
          repeat' (first | refine zck ?_ | refine zcp (by kernel_rfl) ?_ | (refine zap rfl ?_; first | (refine zau rfl rfl (by omega) ?_; rw [Int.add_zero]) | refine zan rfl ?_ | refine zaa 1 rfl rfl rfl ?_ | refine zaa 2 rfl rfl rfl ?_ | refine zah [0] (putS w0 p _ _ _ (by first | exact hsm.mono (by decide) | (repeat (first | refine sm_get ?_ | refine sm_put ?_ | refine sm_node ?_ | refine sm_take ?_ | refine sm_many ?_ | refine sm_way ?_ | refine sm_poolTake ?_ | refine sm_give ?_ | refine sm_place ?_)); exact hsm.mono (by decide))) rfl rfl rfl sub_nil rfl ?_ | refine zao rfl ?_ | refine zau rfl rfl (by omega) ?_) | refine zch ?_)
          exact cut_end ⟨rfl, _, ⟨rfl, rfl, rfl, rfl, rfl, trivial⟩, ⟨rfl, sm_put (sm_put hsm9), by rw [if_pos hz]⟩⟩
        · refine zcj (bool_eq (decide_eq_false (by omega))) ?_
          repeat (first | refine zck ?_ | refine zcl ?_ | refine zcm ?_ | refine zcn ?_ | refine zco ?_)
          exact cut_end ⟨rfl, _, ⟨rfl, rfl, rfl, rfl, rfl, trivial⟩, ⟨rfl, hsm9.mono (by decide), by rw [if_neg hz]⟩⟩
      rintro s6 Γ' junk ⟨rfl, hsm10, he6⟩
      rw [he6] at hr3
      have hsm := hsm10
      repeat' (first | refine zck ?_ | refine zcp (by kernel_rfl) ?_ | (refine zap rfl ?_; first | refine zan rfl ?_ | refine zaa 1 rfl rfl rfl ?_ | refine zaa 2 rfl rfl rfl ?_ | refine zab 1 rfl rfl rfl ?_ | refine zah [0] (putS w0 p _ _ _ (by first | exact hsm.mono (by decide) | (repeat (first | refine sm_get ?_ | refine sm_put ?_ | refine sm_node ?_ | refine sm_take ?_ | refine sm_many ?_ | refine sm_way ?_ | refine sm_poolTake ?_ | refine sm_give ?_ | refine sm_place ?_)); exact hsm.mono (by decide))) rfl rfl rfl sub_nil rfl ?_ | refine zao rfl ?_ | refine zau rfl rfl (by omega) ?_ | refine zav rfl rfl (by omega) ?_ | refine zae 1 rfl rfl rfl rfl rfl rfl rfl ?_ | refine zae 2 rfl rfl rfl rfl rfl rfl rfl ?_) | refine zch ?_)
      exact run_ret (fin _ _ _ _ rfl rfl hr3)
    · obtain ⟨hli, hlb1, hlb2⟩ := hgD i hi
      have hdrop : l.drop i = l.getD i 0 :: l.drop (i + 1) := by
        rw [List.drop_eq_getElem_cons (by omega)]
        congr 1
        have := hli; rw [List.getElem?_eq_getElem (by omega)] at this; exact Option.some.inj this
      rw [hdrop] at hr3 hgv
      have hgu : A.gives n d now (l.getD i 0 :: l.drop (i + 1)) i gone s4 = A.gives n d now (l.getD i 0 :: l.drop (i + 1)) i gone s4 := rfl
      conv at hgu => rhs; unfold Ar.gives
      rw [hgu] at hr3 hgv
      have hsm8 : Sm s4 (4 + 3 * (d - (i + 1)) + 3) := hsm7.mono (by omega)
      have hp := pw_pos (d - i)
      repeat (first | refine zck ?_ | refine zcl ?_ | refine zcm ?_ | refine zcn ?_)
      first | refine zcp (by kernel_rfl) ?_ | refine zcq PP_mixed (by kernel_rfl) (by kernel_rfl) ?_
      repeat' (refine zap rfl ?_; first | refine zbq rfl rfl ?_)
      all_goals refine zch ?_
      all_goals repeat (first | refine zck ?_ | refine zcl ?_ | refine zcm ?_ | refine zcn ?_)
      refine zci (bool_eq (decide_eq_true (by omega))) ?_
      repeat (first | refine zck ?_ | refine zcl ?_ | refine zcm ?_ | refine zcn ?_ | refine zco ?_)
      repeat (first | refine zck ?_ | refine zcl ?_ | refine zcm ?_ | refine zcn ?_)
      first | refine zcp (by kernel_rfl) ?_ | refine zcq PP_mixed (by kernel_rfl) (by kernel_rfl) ?_
      repeat' (refine zap rfl ?_; first | refine zaa 0 rfl rfl (hrd i hi _ (by omega)) ?_ | refine zan rfl ?_ | refine zan rfl ?_ | refine zas rfl rfl (by omega) ?_)
      all_goals refine zch ?_
      all_goals repeat (first | refine zck ?_ | refine zcl ?_ | refine zcm ?_ | refine zcn ?_)
      refine run_join (S := Unit) (fun _ => [(2, ptrA b2), (3, ptrA b3), (4, ptrA vb), (5, ptrA eb), (6, .int .i64 n), (7, .int .i64 (d : Int)), (11, .int .i64 now), (12, .int .i64 top), (15, .int .i64 gone), (84, .slice (some ⟨lb, 0, none⟩) l.length cap), (85, .int .i64 l.length), (86, .int .i64 (i : Int)), (17, .int .i64 (l.getD i 0)), (108, .bool (decide ((n - 1) % pw (d - i) ≠ 0 ∧ (0 < i ∨ now = d))))])
        (fun _ Γ => Γ = [SpaceA p s4, vV vb g.1, eV eb 0, mVA nb mk]) ?_ ?_
      · by_cases hc1 : (n - 1) % pw (d - i) ≠ 0
        · have d1 : decide ((n - 1) % pw (d - i) ≠ 0) = true := decide_eq_true hc1
          by_cases hc2 : 0 < i
          · have d2 : decide ((0 : Int) < (i : Int)) = true := decide_eq_true (by omega)
            repeat' (first | refine zcp (by kernel_rfl) ?_ | (refine zap rfl ?_; first | refine zac rfl hw2 (powL_rd (d - i) (by omega) _ (by omega)) ?_ | (refine zbp rfl rfl ?_; rw [d1]) | (refine zbs rfl rfl ?_; rw [d2]) | refine zaj rfl ?_ | refine zak rfl ?_ | refine zan rfl ?_ | refine zav rfl rfl (by omega) ?_ | refine zay rfl rfl (by omega) ?_ | refine zbu rfl ?_ | refine zat rfl rfl (by omega) ?_) | refine zch ?_)
            exact cut_end ⟨rfl, (), ⟨rfl, rfl, rfl, rfl, rfl, rfl, rfl, rfl, rfl, rfl, rfl, rfl, rfl, bool_eq (by simp [hc1, hc2]), trivial⟩, rfl⟩
          · have d2 : decide ((0 : Int) < (i : Int)) = false := decide_eq_false (by omega)
            by_cases hc3 : now = d
            · have d3 : decide ((now : Int) = (d : Int)) = true := decide_eq_true (by omega)
              repeat' (first | refine zcp (by kernel_rfl) ?_ | (refine zap rfl ?_; first | refine zac rfl hw2 (powL_rd (d - i) (by omega) _ (by omega)) ?_ | (refine zbp rfl rfl ?_; rw [d1]) | (refine zbs rfl rfl ?_; rw [d2]) | (refine zbo rfl rfl ?_; rw [d3]) | refine zaj rfl ?_ | refine zan rfl ?_ | refine zav rfl rfl (by omega) ?_ | refine zay rfl rfl (by omega) ?_ | refine zbu rfl ?_ | refine zbv rfl ?_ | refine zat rfl rfl (by omega) ?_) | refine zch ?_)
              exact cut_end ⟨rfl, (), ⟨rfl, rfl, rfl, rfl, rfl, rfl, rfl, rfl, rfl, rfl, rfl, rfl, rfl, bool_eq (by simp [hc1, hc3]), trivial⟩, rfl⟩
            · have d3 : decide ((now : Int) = (d : Int)) = false := decide_eq_false (by omega)
              repeat' (first | refine zcp (by kernel_rfl) ?_ | (refine zap rfl ?_; first | refine zac rfl hw2 (powL_rd (d - i) (by omega) _ (by omega)) ?_ | (refine zbp rfl rfl ?_; rw [d1]) | (refine zbs rfl rfl ?_; rw [d2]) | (refine zbo rfl rfl ?_; rw [d3]) | refine zaj rfl ?_ | refine zan rfl ?_ | refine zav rfl rfl (by omega) ?_ | refine zay rfl rfl (by omega) ?_ | refine zbu rfl ?_ | refine zbv rfl ?_ | refine zat rfl rfl (by omega) ?_) | refine zch ?_)
              exact cut_end ⟨rfl, (), ⟨rfl, rfl, rfl, rfl, rfl, rfl, rfl, rfl, rfl, rfl, rfl, rfl, rfl, bool_eq (by simp [hc2, hc3]), trivial⟩, rfl⟩
        · have d1 : decide ((n - 1) % pw (d - i) ≠ 0) = false := decide_eq_false hc1
          repeat' (first | refine zcp (by kernel_rfl) ?_ | (refine zap rfl ?_; first | refine zac rfl hw2 (powL_rd (d - i) (by omega) _ (by omega)) ?_ | (refine zbp rfl rfl ?_; rw [d1]) | refine zak rfl ?_ | refine zal rfl ?_ | refine zan rfl ?_ | refine zav rfl rfl (by omega) ?_ | refine zay rfl rfl (by omega) ?_ | refine zbv rfl ?_ | refine zat rfl rfl (by omega) ?_) | refine zch ?_)
          exact cut_end ⟨rfl, (), ⟨rfl, rfl, rfl, rfl, rfl, rfl, rfl, rfl, rfl, rfl, rfl, rfl, rfl, bool_eq (by simp [hc1]), trivial⟩, rfl⟩
      rintro _ Γ' junk rfl
      repeat (first | refine zck ?_ | refine zcl ?_ | refine zcm ?_ | refine zcn ?_ | refine zco ?_)
      by_cases hc : (n - 1) % pw (d - i) ≠ 0 ∧ (0 < i ∨ now = d)
      · refine zci (bool_eq (decide_eq_true hc)) ?_
        rw [if_pos hc] at hgv
        repeat' (first | refine zcp (by kernel_rfl) ?_ | refine zcs rfl ?_ | (refine zap rfl ?_; first | refine zan rfl ?_ | refine zau rfl rfl (by omega) ?_) | refine zch ?_)
        exact cut_end ⟨rfl, (i + 1, gone, s4), ⟨rfl, rfl, rfl, rfl, rfl, rfl, rfl, rfl, rfl, rfl, rfl, int_eq (by dsimp only; omega), trivial⟩, ⟨rfl, hi, hsm8.mono (by dsimp only; omega), ⟨hgb.1, by dsimp only; omega⟩, hgv⟩, by dsimp only; omega⟩
      · refine zcj (bool_eq (decide_eq_false hc)) ?_
        rw [if_neg hc] at hgv hr3
        have hGv := give_spec w0 p A.pool hA.1 s4 (l.getD i 0) (hsm8.mono (by omega))
        have hsm9 : Sm (A.pool.give s4 (l.getD i 0)).2 (4 + 3 * (d - (i + 1))) := sm_give hsm8
        generalize A.pool.give s4 (l.getD i 0) = y at hgv hr3 hGv hsm9
        repeat (first | refine zck ?_ | refine zcl ?_ | refine zcm ?_ | refine zcn ?_ | refine zco ?_)
        repeat (first | refine zck ?_ | refine zcl ?_ | refine zcm ?_ | refine zcn ?_)
        first | refine zcp (by kernel_rfl) ?_ | refine zcq PP_mixed (by kernel_rfl) (by kernel_rfl) ?_
        repeat' (refine zap rfl ?_; first | refine zan rfl ?_ | refine zan rfl ?_ | refine zaa 1 rfl rfl rfl ?_ | refine zaa 2 rfl rfl rfl ?_ | refine zah [0] hGv rfl rfl rfl sub_nil rfl ?_ | refine zao rfl ?_)
        all_goals refine zch ?_
        all_goals repeat (first | refine zck ?_ | refine zcl ?_ | refine zcm ?_ | refine zcn ?_)
        repeat (first | refine zck ?_ | refine zcl ?_ | refine zcm ?_ | refine zcn ?_)
        first | refine zcp (by kernel_rfl) ?_ | refine zcq PP_mixed (by kernel_rfl) (by kernel_rfl) ?_
        repeat' (refine zap rfl ?_; first | refine zan rfl ?_ | refine zbp rfl rfl ?_)
        all_goals refine zch ?_
        all_goals repeat (first | refine zck ?_ | refine zcl ?_ | refine zcm ?_ | refine zcn ?_)
        refine run_cond rfl (fun hE => ?_) (fun hE => ?_)
        · rw [if_neg hE] at hr3
          dsimp only at hr3
          rw [if_neg hE] at hr3
          repeat' (first | refine zck ?_ | refine zcp (by kernel_rfl) ?_ | (refine zap rfl ?_; first | refine zan rfl ?_ | refine zae 1 rfl rfl rfl rfl rfl rfl rfl ?_ | refine zae 2 rfl rfl rfl rfl rfl rfl rfl ?_) | refine zch ?_)
          exact run_ret (fin _ _ _ _ rfl rfl hr3)
        · have hE : y.1 = 0 := Decidable.of_not_not hE
          rw [if_pos hE] at hgv
          repeat' (first | refine zcp (by kernel_rfl) ?_ | refine zcm ?_ | refine zcn ?_ | (refine zap rfl ?_; first | refine zan rfl ?_ | refine zan rfl ?_ | refine zau rfl rfl (by omega) ?_) | refine zch ?_)
          exact cut_end ⟨rfl, (i + 1, gone + 1, y.2), ⟨rfl, rfl, rfl, rfl, rfl, rfl, rfl, rfl, rfl, rfl, rfl, int_eq (by dsimp only; omega), trivial⟩, ⟨rfl, hi, hsm9, ⟨by dsimp only; omega, by dsimp only; omega⟩, hgv⟩, by dsimp only; omega⟩
end Go.Proofs.YtgdhcgnmffgkiaaGreatDoor

namespace Go.Proofs.YtgdhcgnmffgkiaaGreatDoor
open Go.Vc Sim
set_option maxHeartbeats 4000000
def intsL (l : List Int) : List Value := l.map (.int .i64)
def vsA (b : Nat) (l : List Int) : Asn := fun h => ∃ ad cap, Stars [pt b (.cells (List.toArray [.slice ad l.length cap]) 26 (0, 0)), SlA 2 1 ad l.length cap (intsL l)] h
theorem vs_snoc {b : Nat} {ad : Option Addr} {cap : Nat} {acc : List Int} {n : Int} {h : Heap} (hs : Stars [pt b (.cells (List.toArray [.slice ad (acc.length + 1) cap]) 26 (0, 0)), SlA 2 1 ad (acc.length + 1) cap (intsL acc ++ [.int .i64 n])] h) : vsA b (acc ++ [n]) h := by
  refine ⟨ad, cap, ?_⟩
  have e : intsL (acc ++ [n]) = intsL acc ++ [.int .i64 n] := by simp [intsL]
  rw [e, List.length_append]; exact hs
theorem ghVerts (w0 : World) (p : Nat) (G : Gh) (hK : G.Ok) : ∀ s, Pg.Fits G.verts s → Vc.Fn PP w0 [] 94 [ghV G, spP p] [SpaceA p s]
    (fun v Γ => ∃ ad cap, v = .tuple #[.slice ad (Pg.run G.verts s).1.1.length cap, .int .i64 (Pg.run G.verts s).1.2] ∧ Γ = [SpaceA p (Pg.run G.verts s).2]) := by
  intro s hS; have hG := At.start hS; generalize Pg.run _ s = R at hG ⊢
  unfold Gh.verts at hG
  refine fn_of_run en94 fn94 rfl rfl rfl ?_
  repeat (first | refine zck ?_ | refine zcl ?_ | refine zcm ?_ | refine zcn ?_)
  first | refine zcp (by kernel_rfl) ?_ | refine zcq PP_mixed (by kernel_rfl) (by kernel_rfl) ?_
  repeat' (refine zap rfl ?_; first | refine zan rfl ?_ | refine zaq (cs := [_, _, _, _]) rfl (fun nb => ?_))
  all_goals refine zch ?_
  all_goals repeat (first | refine zck ?_ | refine zcl ?_ | refine zcm ?_ | refine zcn ?_)
  refine run_share [1] rfl ?_
  repeat (first | refine zck ?_ | refine zcl ?_ | refine zcm ?_ | refine zcn ?_)
  first | refine zcp (by kernel_rfl) ?_ | refine zcq PP_mixed (by kernel_rfl) (by kernel_rfl) ?_
  repeat' (refine zap rfl ?_; first | refine zar (fun sb => ?_))
  all_goals refine zch ?_
  all_goals repeat (first | refine zck ?_ | refine zcl ?_ | refine zcm ?_ | refine zcn ?_)
  repeat (first | refine zck ?_ | refine zcl ?_ | refine zcm ?_ | refine zcn ?_)
  first | refine zcp (by kernel_rfl) ?_ | refine zcq PP_mixed (by kernel_rfl) (by kernel_rfl) ?_
  repeat' (refine zap rfl ?_; first | refine zar (fun eb => ?_) | refine zae 2 rfl rfl rfl rfl rfl rfl rfl ?_)
  all_goals refine zch ?_
  all_goals repeat (first | refine zck ?_ | refine zcl ?_ | refine zcm ?_ | refine zcn ?_)
  repeat (first | refine zck ?_ | refine zcl ?_ | refine zcm ?_ | refine zcn ?_)
  first | refine zcp (by kernel_rfl) ?_ | refine zcr [(.quiet, 0), (.quiet, 1), (.read, 2), (.loud, 3), (.loud, 4)] PP_mixed (by kernel_rfl) (by kernel_rfl) ?_ | refine run_drawR PP_mixed (by kernel_rfl) (by kernel_rfl) ?_
  repeat' (refine zap rfl ?_; first | refine zan rfl ?_ | refine zaa 0 rfl rfl rfl ?_ | refine zah [] (ghAll w0 G) rfl rfl rfl sub_nil rfl ?_ | refine zai [] (ghThrough w0 p eb G G.all) rfl rfl rfl sub_nil (fun v Γ' ⟨b1, b2, b3, b4, q1, q2⟩ => ?_))
  all_goals refine zch ?_
  all_goals repeat (first | refine zck ?_ | refine zcl ?_ | refine zcm ?_ | refine zcn ?_)
  subst q1; subst q2
  refine run_share [0] rfl ?_
  refine run_share [0] rfl ?_
  refine run_share [0] rfl ?_
  refine run_share [0] rfl ?_
  refine run_close (A := vsA sb []) [1] rfl (fun h hs => ⟨none, 0, h, Heap.emp, Disj.emp_right h, (Heap.or_emp h).symm, Stars.one.1 hs, Stars.one.2 ⟨rfl, rfl, rfl, rfl⟩⟩) ?_
  repeat (first | refine zck ?_ | refine zcl ?_ | refine zcm ?_ | refine zcn ?_ | refine zco ?_)
  refine run_through [1, 0, 0] hK (fun i acc => acc.length = i) Gh.vertsF (fun l => vsA sb l) (fun _ => big []) hG rfl (fun i acc n s hi h _ => by simp [Gh.vertsF, Pg.run, pure, h]) rfl sub4 rfl (by kernel_rfl) rfl (fun i acc n s R hi hph hG => ?_) (fun D r s hq hG => ⟨fun hr => ?_, fun hr => ?_⟩)
  · unfold Gh.vertsF at hG
    repeat (first | refine zck ?_ | refine zcl ?_ | refine zcm ?_ | refine zcn ?_)
    first | refine zcp (by kernel_rfl) ?_ | refine zcq PP_mixed (by kernel_rfl) (by kernel_rfl) ?_
    repeat' (refine zap rfl ?_; first | refine zan rfl ?_)
    all_goals refine zch ?_
    all_goals repeat (first | refine zck ?_ | refine zcl ?_ | refine zcm ?_ | refine zcn ?_)
    refine run_nil ⟨rfl, ?_⟩
    repeat (first | refine zck ?_ | refine zcl ?_ | refine zcm ?_ | refine zcn ?_ | refine zco ?_)
    refine run_open (A := vsA sb acc) [1] (fun i : Option Addr × Nat => [pt sb (.cells (List.toArray [.slice i.1 acc.length i.2]) 26 (0, 0)), SlA 2 1 i.1 acc.length i.2 (intsL acc)]) rfl (fun h ⟨ad, cap, hs⟩ => ⟨(ad, cap), hs⟩) (fun ⟨ad, cap⟩ => ?_)
    repeat (first | refine zck ?_ | refine zcl ?_ | refine zcm ?_ | refine zcn ?_)
    first | refine zcp (by kernel_rfl) ?_ | refine zcq PP_mixed (by kernel_rfl) (by kernel_rfl) ?_
    repeat' (refine zap rfl ?_; first | refine reg_buildSlice rfl rfl rfl rfl rfl rfl (fun nb2 => ?_) | refine zan rfl ?_ | refine zab 0 rfl rfl rfl ?_ | refine reg_append 1 3 rfl rfl rfl rfl rfl rfl rfl rfl (by omega) (fun _ _ => rfl) (fun a' cap' => ?_) | refine zae 0 rfl rfl rfl rfl rfl rfl rfl ?_)
    all_goals refine zch ?_
    all_goals repeat (first | refine zck ?_ | refine zcl ?_ | refine zcm ?_ | refine zcn ?_)
    refine run_close (A := vsA sb (acc ++ [n])) [0, 0] rfl (fun h hs => vs_snoc hs) ?_
    refine run_take [1, 0] rfl ?_
    rw [hG.done]
    repeat (first | refine zck ?_ | refine zcl ?_ | refine zcm ?_ | refine zcn ?_ | refine zco ?_)
    exact run_nil ⟨rfl, rfl⟩
  · refine run_open (A := vsA sb r.1) [2] (fun i : Option Addr × Nat => [pt sb (.cells (List.toArray [.slice i.1 r.1.length i.2]) 26 (0, 0)), SlA 2 1 i.1 r.1.length i.2 (intsL r.1)]) rfl (fun h ⟨ad, cap, hs⟩ => ⟨(ad, cap), hs⟩) (fun ⟨ad, cap⟩ => ?_)
    repeat (first | refine zck ?_ | refine zcl ?_ | refine zcm ?_ | refine zcn ?_ | refine zco ?_)
    refine run_share [4] rfl ?_
    repeat (first | refine zck ?_ | refine zcl ?_ | refine zcm ?_ | refine zcn ?_)
    first | refine zcp (by kernel_rfl) ?_ | refine zcq PP_mixed (by kernel_rfl) (by kernel_rfl) ?_
    repeat' (refine zap rfl ?_; first | refine zaa 0 rfl rfl rfl ?_ | refine zbp rfl rfl ?_)
    all_goals refine zch ?_
    all_goals repeat (first | refine zck ?_ | refine zcl ?_ | refine zcm ?_ | refine zcn ?_)
    refine run_cond rfl (fun he => ?_) (fun he => ?_)
    · have he : r.2.1 ≠ 0 := he
      rw [if_pos he] at hG
      rw [hG.done]
      repeat (first | refine zck ?_ | refine zcl ?_ | refine zcm ?_ | refine zcn ?_)
      first | refine zcp (by kernel_rfl) ?_ | refine zcr [(.read, 0), (.quiet, 1), (.quiet, 2)] PP_mixed (by kernel_rfl) (by kernel_rfl) ?_ | refine run_drawR PP_mixed (by kernel_rfl) (by kernel_rfl) ?_
      repeat' (refine zap rfl ?_; first | refine zan rfl ?_ | refine zaa 0 rfl rfl rfl ?_)
      all_goals refine zch ?_
      all_goals repeat (first | refine zck ?_ | refine zcl ?_ | refine zcm ?_ | refine zcn ?_)
      exact run_ret (leaves_mark [2] rfl (leaves_nil (ends_take [2] rfl (ends_two rfl rfl rfl ⟨rfl, none, 0, rfl, rfl⟩))))
    · have he : ¬ r.2.1 ≠ 0 := he
      rw [if_neg he] at hG
      rw [hG.done]
      repeat (first | refine zck ?_ | refine zcl ?_ | refine zcm ?_ | refine zcn ?_)
      first | refine zcp (by kernel_rfl) ?_ | refine zcq PP_mixed (by kernel_rfl) (by kernel_rfl) ?_
      repeat' (refine zap rfl ?_; first | refine zan rfl ?_ | refine zab 0 rfl rfl rfl ?_)
      all_goals refine zch ?_
      all_goals repeat (first | refine zck ?_ | refine zcl ?_ | refine zcm ?_ | refine zcn ?_)
      exact run_ret (leaves_mark [2] rfl (leaves_nil (ends_take [2] rfl (ends_two rfl rfl rfl ⟨rfl, ad, cap, rfl, rfl⟩))))
  · exact absurd (hq ▸ hr) (by rw [G.through_go _ _ (fun _ _ _ => rfl)]; decide)
end Go.Proofs.YtgdhcgnmffgkiaaGreatDoor

namespace Go.Proofs.YtgdhcgnmffgkiaaGreatDoor
open Go.Vc Sim
set_option maxHeartbeats 4000000
set_option maxRecDepth 20000
end Go.Proofs.YtgdhcgnmffgkiaaGreatDoor

namespace Go.Proofs.YtgdhcgnmffgkiaaGreatDoor
open Go.Vc Sim
set_option maxHeartbeats 4000000
set_option maxRecDepth 20000
end Go.Proofs.YtgdhcgnmffgkiaaGreatDoor

namespace Go.Proofs.YtgdhcgnmffgkiaaGreatDoor
open Go.Vc Sim
set_option maxHeartbeats 4000000
set_option maxRecDepth 20000
end Go.Proofs.YtgdhcgnmffgkiaaGreatDoor

namespace Go.Proofs.YtgdhcgnmffgkiaaGreatDoor
open Go.Vc Sim
set_option maxHeartbeats 4000000
set_option maxRecDepth 20000
theorem ghEdges (w0 : World) (p : Nat) (G : Gh) : FnG w0 [] 95 [ghV G, spP p] p G.edges (.int .i64) := by
  intro s hS; have hG := At.start hS; generalize Pg.run _ s = R at hG ⊢
  unfold Gh.edges at hG
  have hG := hG.to (Pg.bind_pure _).symm
  refine fn_of_run en95 fn95 rfl rfl rfl ?_
  repeat (first | refine zck ?_ | refine zcl ?_ | refine zcm ?_ | refine zcn ?_)
  first | refine zcp (by kernel_rfl) ?_ | refine zcq PP_mixed (by kernel_rfl) (by kernel_rfl) ?_
  repeat' (refine zap rfl ?_; first | refine zan rfl ?_ | refine zaq (cs := [_, _, _, _]) rfl (fun nb => ?_))
  all_goals refine zch ?_
  all_goals repeat (first | refine zck ?_ | refine zcl ?_ | refine zcm ?_ | refine zcn ?_)
  refine run_share [1] rfl ?_
  repeat' (first | refine zcp (by kernel_rfl) ?_ | (refine zap rfl ?_; first | refine reg_add rfl rfl ?_ | refine zan rfl ?_ | refine zan rfl ?_ | refine zaa 0 rfl rfl rfl ?_ | refine reg_callG [0] hG (getG w0 p _) rfl rfl rfl sub_nil (fun v s hG => ?_) | refine zao rfl ?_) | refine zch ?_)
  rw [hG.done]
  exact ret_tmp1 rfl ⟨rfl, rfl⟩
end Go.Proofs.YtgdhcgnmffgkiaaGreatDoor

namespace Sim
open Go Go.Vc
def fitsB {α : Type} : Pg α → Sp → Bool
  | .ret _, s => Nat.ble s.puts.length 1099511627776
  | .get x k, s => Nat.ble s.puts.length 1099511627776 && fitsB (k (s.get x).1) (s.get x).2
  | .put x v k, s => Nat.ble s.puts.length 1099511627776 && fitsB k (s.put x v)
  | .mark k, s => Nat.ble s.puts.length 1099511627776 && fitsB (k s.puts.length) s
  | .back m k, s => Nat.ble s.puts.length 1099511627776 && fitsB k (s.back m)
theorem fitsB_eqv {α : Type} : ∀ (g : Pg α) {s t : Sp}, Eqv s t → fitsB g t = true → Pg.Fits g s
  | .ret _, s, t, h, hb => by
    simp only [fitsB] at hb; simp only [Pg.Fits]; rw [h.puts]; exact Nat.le_of_ble_eq_true hb
  | .get x k, s, t, h, hb => by
    simp only [fitsB, Bool.and_eq_true] at hb
    obtain ⟨h1, h2⟩ := h.get x
    refine ⟨by rw [h.puts]; exact Nat.le_of_ble_eq_true hb.1, ?_⟩
    rw [h1]; exact fitsB_eqv _ h2 hb.2
  | .put x v k, s, t, h, hb => by
    simp only [fitsB, Bool.and_eq_true] at hb
    exact ⟨by rw [h.puts]; exact Nat.le_of_ble_eq_true hb.1, fitsB_eqv k (h.put x v) hb.2⟩
  | .mark k, s, t, h, hb => by
    simp only [fitsB, Bool.and_eq_true] at hb
    refine ⟨by rw [h.puts]; exact Nat.le_of_ble_eq_true hb.1, ?_⟩
    rw [h.puts]; exact fitsB_eqv _ h hb.2
  | .back m k, s, t, h, hb => by
    simp only [fitsB, Bool.and_eq_true] at hb
    exact ⟨by rw [h.puts]; exact Nat.le_of_ble_eq_true hb.1, fitsB_eqv k (h.back m) hb.2⟩
def firstQ (name : ByteArray) : Int × Int :=
  if ([bs [112, 111, 112], bs [116, 97, 107, 101], bs [116, 111, 112], bs [102, 105, 114, 115, 116], bs [112, 111, 112, 95, 108, 101, 102, 116], bs [112, 111, 112, 95, 114, 105, 103, 104, 116], bs [108, 101, 102, 116], bs [114, 105, 103, 104, 116], bs [109, 105, 110], bs [108, 101, 97, 115, 116]].any fun b => decide (b = name)) = true then (0, 8)
  else if name = bs [109, 97, 107, 101] then (1, 0) else (0, 0)
end Sim
namespace Go.Proofs.YtgdhcgnmffgkiaaGreatDoor
open Go.Vc Sim
set_option maxHeartbeats 4000000
theorem heOk (r : Int) (h : 0 ≤ r ∧ r ≤ 4096 := by decide) : (⟨awP, r⟩ : He).Ok := ⟨awP_ok, h.1, h.2⟩
theorem foOk (r : Int) (h : 0 ≤ r ∧ r ≤ 4096 := by decide) : (⟨awP, r⟩ : Fo).Ok := ⟨awP_ok, h.1, h.2⟩
theorem trOk (r : Int) (h : 0 ≤ r ∧ r ≤ 4096 := by decide) : (⟨awP, r, hsI, fun _ => true⟩ : Tr).Ok := ⟨awP_ok, h.1, h.2, (by show awP.nodes ≤ 100; decide), fun n => (hsI_in n).1, fun n => (hsI_in n).2⟩
theorem start_pg {w0 : World} {α : Type} {f : FuncId} {args : List Value} {p : Nat} {g : Pg α} {enc : α → Value} (spec : FnG w0 [] f args p g enc) (hB : fitsB g awS = true) {s : Sp} (hs : Eqv s awS) {v : α} (hv : (Pg.run g awS).1 = v) :
    FnE PP w0 [] f args [SpaceA p s] (enc v) [SpaceA p (Pg.run g s).2] ∧ Eqv (Pg.run g s).2 (Pg.run g awS).2 := by
  obtain ⟨h1, h2⟩ := Pg.run_eqv g hs
  have h := spec s (fitsB_eqv g hs hB)
  rw [h1, hv] at h
  exact ⟨h, h2⟩
def StartOk (w0 : World) (p : Nat) (k : Int) (two : Bool) (m : MRow) (s : Sp) : Prop :=
  ∃ s', FnE PP w0 [] 13 [spP p, poolV awP, .agg (List.toArray [.int .i64 k, .int .i64 (rootA k two)]), .string m.1.1, .slice none 0 0] [SpaceA p s] (encI2 (firstQ m.1.1)) [SpaceA p s'] ∧ s'.ended = false ∧ ((m.1.2.2 = true ∧ (firstQ m.1.1).2 = 0) ∨ s'.puts = [])
theorem st_cGet (w0 : World) (p : Nat) (two : Bool) (s : Sp) (hs : Eqv s awS) : StartOk w0 p 0 two ((bs [103, 101, 116], 0, false), 194) s := by
  cases two with
  | false =>
    obtain ⟨h1, h2⟩ := start_pg (ctrGet w0 p 8) (by decide +kernel) hs (v := 0) (by decide +kernel)
    refine ⟨_, doE w0 [] p awP 0 8 (bs [103, 101, 116]) none 0 0 ((bs [103, 101, 116], 0, false), 194) (by kernel_rfl) (by decide +kernel) rfl s _ _ (clo_cGet w0 [] p awP 8 _ s _ 0 h1), ?_, ?_⟩
    · rw [h2.ended]; decide +kernel
    · exact .inr (by rw [h2.puts]; decide +kernel)
  | true =>
    obtain ⟨h1, h2⟩ := start_pg (ctrGet w0 p 88) (by decide +kernel) hs (v := 0) (by decide +kernel)
    refine ⟨_, doE w0 [] p awP 0 88 (bs [103, 101, 116]) none 0 0 ((bs [103, 101, 116], 0, false), 194) (by kernel_rfl) (by decide +kernel) rfl s _ _ (clo_cGet w0 [] p awP 88 _ s _ 0 h1), ?_, ?_⟩
    · rw [h2.ended]; decide +kernel
    · exact .inr (by rw [h2.puts]; decide +kernel)
theorem st_sPop (w0 : World) (p : Nat) (two : Bool) (s : Sp) (hs : Eqv s awS) : StartOk w0 p 1 two ((bs [112, 111, 112], 0, true), 200) s := by
  cases two with
  | false =>
    obtain ⟨h1, h2⟩ := start_pg (stPop w0 p awP awP_ok 16) (by decide +kernel) hs (v := (0, 8)) (by decide +kernel)
    refine ⟨_, doE w0 [] p awP 1 16 (bs [112, 111, 112]) none 0 0 ((bs [112, 111, 112], 0, true), 200) (by kernel_rfl) (by decide +kernel) rfl s _ _ (clo_sPop w0 [] p awP 16 _ s _ (0, 8) h1), ?_, ?_⟩
    · rw [h2.ended]; decide +kernel
    · exact .inr (by rw [h2.puts]; decide +kernel)
  | true =>
    obtain ⟨h1, h2⟩ := start_pg (stPop w0 p awP awP_ok 96) (by decide +kernel) hs (v := (0, 8)) (by decide +kernel)
    refine ⟨_, doE w0 [] p awP 1 96 (bs [112, 111, 112]) none 0 0 ((bs [112, 111, 112], 0, true), 200) (by kernel_rfl) (by decide +kernel) rfl s _ _ (clo_sPop w0 [] p awP 96 _ s _ (0, 8) h1), ?_, ?_⟩
    · rw [h2.ended]; decide +kernel
    · exact .inr (by rw [h2.puts]; decide +kernel)
theorem st_sTop (w0 : World) (p : Nat) (two : Bool) (s : Sp) (hs : Eqv s awS) : StartOk w0 p 1 two ((bs [116, 111, 112], 0, false), 201) s := by
  cases two with
  | false =>
    obtain ⟨h1, h2⟩ := start_pg (stTop w0 p 16) (by decide +kernel) hs (v := (0, 8)) (by decide +kernel)
    refine ⟨_, doE w0 [] p awP 1 16 (bs [116, 111, 112]) none 0 0 ((bs [116, 111, 112], 0, false), 201) (by kernel_rfl) (by decide +kernel) rfl s _ _ (clo_sTop w0 [] p awP 16 _ s _ (0, 8) h1), ?_, ?_⟩
    · rw [h2.ended]; decide +kernel
    · exact .inr (by rw [h2.puts]; decide +kernel)
  | true =>
    obtain ⟨h1, h2⟩ := start_pg (stTop w0 p 96) (by decide +kernel) hs (v := (0, 8)) (by decide +kernel)
    refine ⟨_, doE w0 [] p awP 1 96 (bs [116, 111, 112]) none 0 0 ((bs [116, 111, 112], 0, false), 201) (by kernel_rfl) (by decide +kernel) rfl s _ _ (clo_sTop w0 [] p awP 96 _ s _ (0, 8) h1), ?_, ?_⟩
    · rw [h2.ended]; decide +kernel
    · exact .inr (by rw [h2.puts]; decide +kernel)
theorem st_sLen (w0 : World) (p : Nat) (two : Bool) (s : Sp) (hs : Eqv s awS) : StartOk w0 p 1 two ((bs [108, 101, 110], 0, false), 202) s := by
  cases two with
  | false =>
    obtain ⟨h1, h2⟩ := start_pg (stLen w0 p 16) (by decide +kernel) hs (v := 0) (by decide +kernel)
    refine ⟨_, doE w0 [] p awP 1 16 (bs [108, 101, 110]) none 0 0 ((bs [108, 101, 110], 0, false), 202) (by kernel_rfl) (by decide +kernel) rfl s _ _ (clo_sLen w0 [] p awP 16 _ s _ 0 h1), ?_, ?_⟩
    · rw [h2.ended]; decide +kernel
    · exact .inr (by rw [h2.puts]; decide +kernel)
  | true =>
    obtain ⟨h1, h2⟩ := start_pg (stLen w0 p 96) (by decide +kernel) hs (v := 0) (by decide +kernel)
    refine ⟨_, doE w0 [] p awP 1 96 (bs [108, 101, 110]) none 0 0 ((bs [108, 101, 110], 0, false), 202) (by kernel_rfl) (by decide +kernel) rfl s _ _ (clo_sLen w0 [] p awP 96 _ s _ 0 h1), ?_, ?_⟩
    · rw [h2.ended]; decide +kernel
    · exact .inr (by rw [h2.puts]; decide +kernel)
theorem st_qTake (w0 : World) (p : Nat) (two : Bool) (s : Sp) (hs : Eqv s awS) : StartOk w0 p 2 two ((bs [116, 97, 107, 101], 0, true), 204) s := by
  cases two with
  | false =>
    obtain ⟨h1, h2⟩ := start_pg (quTake w0 p awP awP_ok 24) (by decide +kernel) hs (v := (0, 8)) (by decide +kernel)
    refine ⟨_, doE w0 [] p awP 2 24 (bs [116, 97, 107, 101]) none 0 0 ((bs [116, 97, 107, 101], 0, true), 204) (by kernel_rfl) (by decide +kernel) rfl s _ _ (clo_qTake w0 [] p awP 24 _ s _ (0, 8) h1), ?_, ?_⟩
    · rw [h2.ended]; decide +kernel
    · exact .inr (by rw [h2.puts]; decide +kernel)
  | true =>
    obtain ⟨h1, h2⟩ := start_pg (quTake w0 p awP awP_ok 104) (by decide +kernel) hs (v := (0, 8)) (by decide +kernel)
    refine ⟨_, doE w0 [] p awP 2 104 (bs [116, 97, 107, 101]) none 0 0 ((bs [116, 97, 107, 101], 0, true), 204) (by kernel_rfl) (by decide +kernel) rfl s _ _ (clo_qTake w0 [] p awP 104 _ s _ (0, 8) h1), ?_, ?_⟩
    · rw [h2.ended]; decide +kernel
    · exact .inr (by rw [h2.puts]; decide +kernel)
theorem st_qFirst (w0 : World) (p : Nat) (two : Bool) (s : Sp) (hs : Eqv s awS) : StartOk w0 p 2 two ((bs [102, 105, 114, 115, 116], 0, false), 205) s := by
  cases two with
  | false =>
    obtain ⟨h1, h2⟩ := start_pg (quFirst w0 p 24) (by decide +kernel) hs (v := (0, 8)) (by decide +kernel)
    refine ⟨_, doE w0 [] p awP 2 24 (bs [102, 105, 114, 115, 116]) none 0 0 ((bs [102, 105, 114, 115, 116], 0, false), 205) (by kernel_rfl) (by decide +kernel) rfl s _ _ (clo_qFirst w0 [] p awP 24 _ s _ (0, 8) h1), ?_, ?_⟩
    · rw [h2.ended]; decide +kernel
    · exact .inr (by rw [h2.puts]; decide +kernel)
  | true =>
    obtain ⟨h1, h2⟩ := start_pg (quFirst w0 p 104) (by decide +kernel) hs (v := (0, 8)) (by decide +kernel)
    refine ⟨_, doE w0 [] p awP 2 104 (bs [102, 105, 114, 115, 116]) none 0 0 ((bs [102, 105, 114, 115, 116], 0, false), 205) (by kernel_rfl) (by decide +kernel) rfl s _ _ (clo_qFirst w0 [] p awP 104 _ s _ (0, 8) h1), ?_, ?_⟩
    · rw [h2.ended]; decide +kernel
    · exact .inr (by rw [h2.puts]; decide +kernel)
theorem st_qLen (w0 : World) (p : Nat) (two : Bool) (s : Sp) (hs : Eqv s awS) : StartOk w0 p 2 two ((bs [108, 101, 110], 0, false), 206) s := by
  cases two with
  | false =>
    obtain ⟨h1, h2⟩ := start_pg (quLen w0 p 24) (by decide +kernel) hs (v := 0) (by decide +kernel)
    refine ⟨_, doE w0 [] p awP 2 24 (bs [108, 101, 110]) none 0 0 ((bs [108, 101, 110], 0, false), 206) (by kernel_rfl) (by decide +kernel) rfl s _ _ (clo_qLen w0 [] p awP 24 _ s _ 0 h1), ?_, ?_⟩
    · rw [h2.ended]; decide +kernel
    · exact .inr (by rw [h2.puts]; decide +kernel)
  | true =>
    obtain ⟨h1, h2⟩ := start_pg (quLen w0 p 104) (by decide +kernel) hs (v := 0) (by decide +kernel)
    refine ⟨_, doE w0 [] p awP 2 104 (bs [108, 101, 110]) none 0 0 ((bs [108, 101, 110], 0, false), 206) (by kernel_rfl) (by decide +kernel) rfl s _ _ (clo_qLen w0 [] p awP 104 _ s _ 0 h1), ?_, ?_⟩
    · rw [h2.ended]; decide +kernel
    · exact .inr (by rw [h2.puts]; decide +kernel)
theorem st_dPopL (w0 : World) (p : Nat) (two : Bool) (s : Sp) (hs : Eqv s awS) : StartOk w0 p 3 two ((bs [112, 111, 112, 95, 108, 101, 102, 116], 0, true), 209) s := by
  cases two with
  | false =>
    obtain ⟨h1, h2⟩ := start_pg (dqPop w0 p awP awP_ok 32 false) (by decide +kernel) hs (v := (0, 8)) (by decide +kernel)
    refine ⟨_, doE w0 [] p awP 3 32 (bs [112, 111, 112, 95, 108, 101, 102, 116]) none 0 0 ((bs [112, 111, 112, 95, 108, 101, 102, 116], 0, true), 209) (by kernel_rfl) (by decide +kernel) rfl s _ _ (clo_dPopL w0 [] p awP 32 _ s _ (0, 8) h1), ?_, ?_⟩
    · rw [h2.ended]; decide +kernel
    · exact .inr (by rw [h2.puts]; decide +kernel)
  | true =>
    obtain ⟨h1, h2⟩ := start_pg (dqPop w0 p awP awP_ok 112 false) (by decide +kernel) hs (v := (0, 8)) (by decide +kernel)
    refine ⟨_, doE w0 [] p awP 3 112 (bs [112, 111, 112, 95, 108, 101, 102, 116]) none 0 0 ((bs [112, 111, 112, 95, 108, 101, 102, 116], 0, true), 209) (by kernel_rfl) (by decide +kernel) rfl s _ _ (clo_dPopL w0 [] p awP 112 _ s _ (0, 8) h1), ?_, ?_⟩
    · rw [h2.ended]; decide +kernel
    · exact .inr (by rw [h2.puts]; decide +kernel)
theorem st_dPopR (w0 : World) (p : Nat) (two : Bool) (s : Sp) (hs : Eqv s awS) : StartOk w0 p 3 two ((bs [112, 111, 112, 95, 114, 105, 103, 104, 116], 0, true), 210) s := by
  cases two with
  | false =>
    obtain ⟨h1, h2⟩ := start_pg (dqPop w0 p awP awP_ok 32 true) (by decide +kernel) hs (v := (0, 8)) (by decide +kernel)
    refine ⟨_, doE w0 [] p awP 3 32 (bs [112, 111, 112, 95, 114, 105, 103, 104, 116]) none 0 0 ((bs [112, 111, 112, 95, 114, 105, 103, 104, 116], 0, true), 210) (by kernel_rfl) (by decide +kernel) rfl s _ _ (clo_dPopR w0 [] p awP 32 _ s _ (0, 8) h1), ?_, ?_⟩
    · rw [h2.ended]; decide +kernel
    · exact .inr (by rw [h2.puts]; decide +kernel)
  | true =>
    obtain ⟨h1, h2⟩ := start_pg (dqPop w0 p awP awP_ok 112 true) (by decide +kernel) hs (v := (0, 8)) (by decide +kernel)
    refine ⟨_, doE w0 [] p awP 3 112 (bs [112, 111, 112, 95, 114, 105, 103, 104, 116]) none 0 0 ((bs [112, 111, 112, 95, 114, 105, 103, 104, 116], 0, true), 210) (by kernel_rfl) (by decide +kernel) rfl s _ _ (clo_dPopR w0 [] p awP 112 _ s _ (0, 8) h1), ?_, ?_⟩
    · rw [h2.ended]; decide +kernel
    · exact .inr (by rw [h2.puts]; decide +kernel)
theorem st_dLeft (w0 : World) (p : Nat) (two : Bool) (s : Sp) (hs : Eqv s awS) : StartOk w0 p 3 two ((bs [108, 101, 102, 116], 0, false), 211) s := by
  cases two with
  | false =>
    obtain ⟨h1, h2⟩ := start_pg (dqPeek w0 p 32 false) (by decide +kernel) hs (v := (0, 8)) (by decide +kernel)
    refine ⟨_, doE w0 [] p awP 3 32 (bs [108, 101, 102, 116]) none 0 0 ((bs [108, 101, 102, 116], 0, false), 211) (by kernel_rfl) (by decide +kernel) rfl s _ _ (clo_dLeft w0 [] p awP 32 _ s _ (0, 8) h1), ?_, ?_⟩
    · rw [h2.ended]; decide +kernel
    · exact .inr (by rw [h2.puts]; decide +kernel)
  | true =>
    obtain ⟨h1, h2⟩ := start_pg (dqPeek w0 p 112 false) (by decide +kernel) hs (v := (0, 8)) (by decide +kernel)
    refine ⟨_, doE w0 [] p awP 3 112 (bs [108, 101, 102, 116]) none 0 0 ((bs [108, 101, 102, 116], 0, false), 211) (by kernel_rfl) (by decide +kernel) rfl s _ _ (clo_dLeft w0 [] p awP 112 _ s _ (0, 8) h1), ?_, ?_⟩
    · rw [h2.ended]; decide +kernel
    · exact .inr (by rw [h2.puts]; decide +kernel)
theorem st_dRight (w0 : World) (p : Nat) (two : Bool) (s : Sp) (hs : Eqv s awS) : StartOk w0 p 3 two ((bs [114, 105, 103, 104, 116], 0, false), 212) s := by
  cases two with
  | false =>
    obtain ⟨h1, h2⟩ := start_pg (dqPeek w0 p 32 true) (by decide +kernel) hs (v := (0, 8)) (by decide +kernel)
    refine ⟨_, doE w0 [] p awP 3 32 (bs [114, 105, 103, 104, 116]) none 0 0 ((bs [114, 105, 103, 104, 116], 0, false), 212) (by kernel_rfl) (by decide +kernel) rfl s _ _ (clo_dRight w0 [] p awP 32 _ s _ (0, 8) h1), ?_, ?_⟩
    · rw [h2.ended]; decide +kernel
    · exact .inr (by rw [h2.puts]; decide +kernel)
  | true =>
    obtain ⟨h1, h2⟩ := start_pg (dqPeek w0 p 112 true) (by decide +kernel) hs (v := (0, 8)) (by decide +kernel)
    refine ⟨_, doE w0 [] p awP 3 112 (bs [114, 105, 103, 104, 116]) none 0 0 ((bs [114, 105, 103, 104, 116], 0, false), 212) (by kernel_rfl) (by decide +kernel) rfl s _ _ (clo_dRight w0 [] p awP 112 _ s _ (0, 8) h1), ?_, ?_⟩
    · rw [h2.ended]; decide +kernel
    · exact .inr (by rw [h2.puts]; decide +kernel)
theorem st_dLen (w0 : World) (p : Nat) (two : Bool) (s : Sp) (hs : Eqv s awS) : StartOk w0 p 3 two ((bs [108, 101, 110], 0, false), 213) s := by
  cases two with
  | false =>
    obtain ⟨h1, h2⟩ := start_pg (dqLen w0 p 32) (by decide +kernel) hs (v := 0) (by decide +kernel)
    refine ⟨_, doE w0 [] p awP 3 32 (bs [108, 101, 110]) none 0 0 ((bs [108, 101, 110], 0, false), 213) (by kernel_rfl) (by decide +kernel) rfl s _ _ (clo_dLen w0 [] p awP 32 _ s _ 0 h1), ?_, ?_⟩
    · rw [h2.ended]; decide +kernel
    · exact .inr (by rw [h2.puts]; decide +kernel)
  | true =>
    obtain ⟨h1, h2⟩ := start_pg (dqLen w0 p 112) (by decide +kernel) hs (v := 0) (by decide +kernel)
    refine ⟨_, doE w0 [] p awP 3 112 (bs [108, 101, 110]) none 0 0 ((bs [108, 101, 110], 0, false), 213) (by kernel_rfl) (by decide +kernel) rfl s _ _ (clo_dLen w0 [] p awP 112 _ s _ 0 h1), ?_, ?_⟩
    · rw [h2.ended]; decide +kernel
    · exact .inr (by rw [h2.puts]; decide +kernel)
theorem st_mLen (w0 : World) (p : Nat) (two : Bool) (s : Sp) (hs : Eqv s awS) : StartOk w0 p 4 two ((bs [108, 101, 110], 0, false), 229) s := by
  cases two with
  | false =>
    obtain ⟨h1, h2⟩ := start_pg (trLen w0 p ⟨awP, 40, hsI, fun _ => true⟩ (trOk 40)) (by decide +kernel) hs (v := 0) (by decide +kernel)
    refine ⟨_, doE w0 [] p awP 4 40 (bs [108, 101, 110]) none 0 0 ((bs [108, 101, 110], 0, false), 229) (by kernel_rfl) (by decide +kernel) rfl s _ _ (clo_mLen w0 [] p awP 40 _ s _ 0 h1), ?_, ?_⟩
    · rw [h2.ended]; decide +kernel
    · exact .inr (by rw [h2.puts]; decide +kernel)
  | true =>
    obtain ⟨h1, h2⟩ := start_pg (trLen w0 p ⟨awP, 120, hsI, fun _ => true⟩ (trOk 120)) (by decide +kernel) hs (v := 0) (by decide +kernel)
    refine ⟨_, doE w0 [] p awP 4 120 (bs [108, 101, 110]) none 0 0 ((bs [108, 101, 110], 0, false), 229) (by kernel_rfl) (by decide +kernel) rfl s _ _ (clo_mLen w0 [] p awP 120 _ s _ 0 h1), ?_, ?_⟩
    · rw [h2.ended]; decide +kernel
    · exact .inr (by rw [h2.puts]; decide +kernel)
theorem st_tLen (w0 : World) (p : Nat) (two : Bool) (s : Sp) (hs : Eqv s awS) : StartOk w0 p 5 two ((bs [108, 101, 110], 0, false), 239) s := by
  cases two with
  | false =>
    obtain ⟨h1, h2⟩ := start_pg (teLen w0 p ⟨awP, 48⟩) (by decide +kernel) hs (v := 0) (by decide +kernel)
    refine ⟨_, doE w0 [] p awP 5 48 (bs [108, 101, 110]) none 0 0 ((bs [108, 101, 110], 0, false), 239) (by kernel_rfl) (by decide +kernel) rfl s _ _ (clo_tLen w0 [] p awP 48 _ s _ 0 h1), ?_, ?_⟩
    · rw [h2.ended]; decide +kernel
    · exact .inr (by rw [h2.puts]; decide +kernel)
  | true =>
    obtain ⟨h1, h2⟩ := start_pg (teLen w0 p ⟨awP, 128⟩) (by decide +kernel) hs (v := 0) (by decide +kernel)
    refine ⟨_, doE w0 [] p awP 5 128 (bs [108, 101, 110]) none 0 0 ((bs [108, 101, 110], 0, false), 239) (by kernel_rfl) (by decide +kernel) rfl s _ _ (clo_tLen w0 [] p awP 128 _ s _ 0 h1), ?_, ?_⟩
    · rw [h2.ended]; decide +kernel
    · exact .inr (by rw [h2.puts]; decide +kernel)
theorem st_hPop (w0 : World) (p : Nat) (two : Bool) (s : Sp) (hs : Eqv s awS) : StartOk w0 p 6 two ((bs [112, 111, 112], 0, true), 242) s := by
  cases two with
  | false =>
    obtain ⟨h1, h2⟩ := start_pg (hePop w0 p ⟨awP, 56⟩ (heOk 56)) (by decide +kernel) hs (v := ((0, 0), 8)) (by decide +kernel)
    refine ⟨_, doE w0 [] p awP 6 56 (bs [112, 111, 112]) none 0 0 ((bs [112, 111, 112], 0, true), 242) (by kernel_rfl) (by decide +kernel) rfl s _ _ (clo_hPop w0 [] p awP 56 _ s _ 0 0 8 h1), ?_, ?_⟩
    · rw [h2.ended]; decide +kernel
    · exact .inr (by rw [h2.puts]; decide +kernel)
  | true =>
    obtain ⟨h1, h2⟩ := start_pg (hePop w0 p ⟨awP, 136⟩ (heOk 136)) (by decide +kernel) hs (v := ((0, 0), 8)) (by decide +kernel)
    refine ⟨_, doE w0 [] p awP 6 136 (bs [112, 111, 112]) none 0 0 ((bs [112, 111, 112], 0, true), 242) (by kernel_rfl) (by decide +kernel) rfl s _ _ (clo_hPop w0 [] p awP 136 _ s _ 0 0 8 h1), ?_, ?_⟩
    · rw [h2.ended]; decide +kernel
    · exact .inr (by rw [h2.puts]; decide +kernel)
theorem st_hMin (w0 : World) (p : Nat) (two : Bool) (s : Sp) (hs : Eqv s awS) : StartOk w0 p 6 two ((bs [109, 105, 110], 0, false), 243) s := by
  cases two with
  | false =>
    obtain ⟨h1, h2⟩ := start_pg (heMin w0 p ⟨awP, 56⟩ (heOk 56)) (by decide +kernel) hs (v := ((0, 0), 8)) (by decide +kernel)
    refine ⟨_, doE w0 [] p awP 6 56 (bs [109, 105, 110]) none 0 0 ((bs [109, 105, 110], 0, false), 243) (by kernel_rfl) (by decide +kernel) rfl s _ _ (clo_hMin w0 [] p awP 56 _ s _ 0 0 8 h1), ?_, ?_⟩
    · rw [h2.ended]; decide +kernel
    · exact .inr (by rw [h2.puts]; decide +kernel)
  | true =>
    obtain ⟨h1, h2⟩ := start_pg (heMin w0 p ⟨awP, 136⟩ (heOk 136)) (by decide +kernel) hs (v := ((0, 0), 8)) (by decide +kernel)
    refine ⟨_, doE w0 [] p awP 6 136 (bs [109, 105, 110]) none 0 0 ((bs [109, 105, 110], 0, false), 243) (by kernel_rfl) (by decide +kernel) rfl s _ _ (clo_hMin w0 [] p awP 136 _ s _ 0 0 8 h1), ?_, ?_⟩
    · rw [h2.ended]; decide +kernel
    · exact .inr (by rw [h2.puts]; decide +kernel)
theorem st_hLeast (w0 : World) (p : Nat) (two : Bool) (s : Sp) (hs : Eqv s awS) : StartOk w0 p 6 two ((bs [108, 101, 97, 115, 116], 0, false), 244) s := by
  cases two with
  | false =>
    obtain ⟨h1, h2⟩ := start_pg (heMin w0 p ⟨awP, 56⟩ (heOk 56)) (by decide +kernel) hs (v := ((0, 0), 8)) (by decide +kernel)
    refine ⟨_, doE w0 [] p awP 6 56 (bs [108, 101, 97, 115, 116]) none 0 0 ((bs [108, 101, 97, 115, 116], 0, false), 244) (by kernel_rfl) (by decide +kernel) rfl s _ _ (clo_hLeast w0 [] p awP 56 _ s _ 0 0 8 h1), ?_, ?_⟩
    · rw [h2.ended]; decide +kernel
    · exact .inr (by rw [h2.puts]; decide +kernel)
  | true =>
    obtain ⟨h1, h2⟩ := start_pg (heMin w0 p ⟨awP, 136⟩ (heOk 136)) (by decide +kernel) hs (v := ((0, 0), 8)) (by decide +kernel)
    refine ⟨_, doE w0 [] p awP 6 136 (bs [108, 101, 97, 115, 116]) none 0 0 ((bs [108, 101, 97, 115, 116], 0, false), 244) (by kernel_rfl) (by decide +kernel) rfl s _ _ (clo_hLeast w0 [] p awP 136 _ s _ 0 0 8 h1), ?_, ?_⟩
    · rw [h2.ended]; decide +kernel
    · exact .inr (by rw [h2.puts]; decide +kernel)
theorem st_hLen (w0 : World) (p : Nat) (two : Bool) (s : Sp) (hs : Eqv s awS) : StartOk w0 p 6 two ((bs [108, 101, 110], 0, false), 247) s := by
  cases two with
  | false =>
    obtain ⟨h1, h2⟩ := start_pg (heLen w0 p ⟨awP, 56⟩) (by decide +kernel) hs (v := 0) (by decide +kernel)
    refine ⟨_, doE w0 [] p awP 6 56 (bs [108, 101, 110]) none 0 0 ((bs [108, 101, 110], 0, false), 247) (by kernel_rfl) (by decide +kernel) rfl s _ _ (clo_hLen w0 [] p awP 56 _ s _ 0 h1), ?_, ?_⟩
    · rw [h2.ended]; decide +kernel
    · exact .inr (by rw [h2.puts]; decide +kernel)
  | true =>
    obtain ⟨h1, h2⟩ := start_pg (heLen w0 p ⟨awP, 136⟩) (by decide +kernel) hs (v := 0) (by decide +kernel)
    refine ⟨_, doE w0 [] p awP 6 136 (bs [108, 101, 110]) none 0 0 ((bs [108, 101, 110], 0, false), 247) (by kernel_rfl) (by decide +kernel) rfl s _ _ (clo_hLen w0 [] p awP 136 _ s _ 0 h1), ?_, ?_⟩
    · rw [h2.ended]; decide +kernel
    · exact .inr (by rw [h2.puts]; decide +kernel)
theorem st_gEdges (w0 : World) (p : Nat) (two : Bool) (s : Sp) (hs : Eqv s awS) : StartOk w0 p 8 two ((bs [101, 100, 103, 101, 115], 0, false), 259) s := by
  cases two with
  | false =>
    obtain ⟨h1, h2⟩ := start_pg (ghEdges w0 p ⟨awP, 72⟩) (by decide +kernel) hs (v := 0) (by decide +kernel)
    refine ⟨_, doE w0 [] p awP 8 72 (bs [101, 100, 103, 101, 115]) none 0 0 ((bs [101, 100, 103, 101, 115], 0, false), 259) (by kernel_rfl) (by decide +kernel) rfl s _ _ (clo_gEdges w0 [] p awP 72 _ s _ 0 h1), ?_, ?_⟩
    · rw [h2.ended]; decide +kernel
    · exact .inr (by rw [h2.puts]; decide +kernel)
  | true =>
    obtain ⟨h1, h2⟩ := start_pg (ghEdges w0 p ⟨awP, 152⟩) (by decide +kernel) hs (v := 0) (by decide +kernel)
    refine ⟨_, doE w0 [] p awP 8 152 (bs [101, 100, 103, 101, 115]) none 0 0 ((bs [101, 100, 103, 101, 115], 0, false), 259) (by kernel_rfl) (by decide +kernel) rfl s _ _ (clo_gEdges w0 [] p awP 152 _ s _ 0 h1), ?_, ?_⟩
    · rw [h2.ended]; decide +kernel
    · exact .inr (by rw [h2.puts]; decide +kernel)
theorem st_fMake (w0 : World) (p : Nat) (two : Bool) (s : Sp) (hs : Eqv s awS) : StartOk w0 p 9 two ((bs [109, 97, 107, 101], 0, true), 260) s := by
  cases two with
  | false =>
    obtain ⟨h1, h2⟩ := start_pg (foMake w0 p ⟨awP, 80⟩ (foOk 80)) (by decide +kernel) hs (v := (1, 0)) (by decide +kernel)
    refine ⟨_, doE w0 [] p awP 9 80 (bs [109, 97, 107, 101]) none 0 0 ((bs [109, 97, 107, 101], 0, true), 260) (by kernel_rfl) (by decide +kernel) rfl s _ _ (clo_fMake w0 [] p awP 80 _ s _ (1, 0) h1), ?_, ?_⟩
    · rw [h2.ended]; decide +kernel
    · exact .inl (by decide +kernel)
  | true =>
    obtain ⟨h1, h2⟩ := start_pg (foMake w0 p ⟨awP, 160⟩ (foOk 160)) (by decide +kernel) hs (v := (1, 0)) (by decide +kernel)
    refine ⟨_, doE w0 [] p awP 9 160 (bs [109, 97, 107, 101]) none 0 0 ((bs [109, 97, 107, 101], 0, true), 260) (by kernel_rfl) (by decide +kernel) rfl s _ _ (clo_fMake w0 [] p awP 160 _ s _ (1, 0) h1), ?_, ?_⟩
    · rw [h2.ended]; decide +kernel
    · exact .inl (by decide +kernel)
theorem st_fUndo (w0 : World) (p : Nat) (two : Bool) (s : Sp) (hs : Eqv s awS) : StartOk w0 p 9 two ((bs [117, 110, 100, 111], 0, true), 264) s := by
  cases two with
  | false =>
    obtain ⟨h1, h2⟩ := start_pg (foUndo w0 p ⟨awP, 80⟩ (foOk 80)) (by decide +kernel) hs (v := (false, 0)) (by decide +kernel)
    refine ⟨_, doE w0 [] p awP 9 80 (bs [117, 110, 100, 111]) none 0 0 ((bs [117, 110, 100, 111], 0, true), 264) (by kernel_rfl) (by decide +kernel) rfl s _ _ (clo_fUndo w0 [] p awP 80 _ s _ false 0 h1), ?_, ?_⟩
    · rw [h2.ended]; decide +kernel
    · exact .inr (by rw [h2.puts]; decide +kernel)
  | true =>
    obtain ⟨h1, h2⟩ := start_pg (foUndo w0 p ⟨awP, 160⟩ (foOk 160)) (by decide +kernel) hs (v := (false, 0)) (by decide +kernel)
    refine ⟨_, doE w0 [] p awP 9 160 (bs [117, 110, 100, 111]) none 0 0 ((bs [117, 110, 100, 111], 0, true), 264) (by kernel_rfl) (by decide +kernel) rfl s _ _ (clo_fUndo w0 [] p awP 160 _ s _ false 0 h1), ?_, ?_⟩
    · rw [h2.ended]; decide +kernel
    · exact .inr (by rw [h2.puts]; decide +kernel)
theorem st_fSets (w0 : World) (p : Nat) (two : Bool) (s : Sp) (hs : Eqv s awS) : StartOk w0 p 9 two ((bs [115, 101, 116, 115], 0, false), 267) s := by
  cases two with
  | false =>
    obtain ⟨h1, h2⟩ := start_pg (foSets w0 p ⟨awP, 80⟩ (foOk 80)) (by decide +kernel) hs (v := 0) (by decide +kernel)
    refine ⟨_, doE w0 [] p awP 9 80 (bs [115, 101, 116, 115]) none 0 0 ((bs [115, 101, 116, 115], 0, false), 267) (by kernel_rfl) (by decide +kernel) rfl s _ _ (clo_fSets w0 [] p awP 80 _ s _ 0 h1), ?_, ?_⟩
    · rw [h2.ended]; decide +kernel
    · exact .inr (by rw [h2.puts]; decide +kernel)
  | true =>
    obtain ⟨h1, h2⟩ := start_pg (foSets w0 p ⟨awP, 160⟩ (foOk 160)) (by decide +kernel) hs (v := 0) (by decide +kernel)
    refine ⟨_, doE w0 [] p awP 9 160 (bs [115, 101, 116, 115]) none 0 0 ((bs [115, 101, 116, 115], 0, false), 267) (by kernel_rfl) (by decide +kernel) rfl s _ _ (clo_fSets w0 [] p awP 160 _ s _ 0 h1), ?_, ?_⟩
    · rw [h2.ended]; decide +kernel
    · exact .inr (by rw [h2.puts]; decide +kernel)
end Go.Proofs.YtgdhcgnmffgkiaaGreatDoor

namespace Go.Proofs.YtgdhcgnmffgkiaaGreatDoor
open Go.Vc Sim
set_option maxHeartbeats 4000000
theorem ghOk (r : Int) (h : 0 ≤ r ∧ r ≤ 4096 := by decide) : (⟨awP, r⟩ : Gh).Ok := ⟨awP_ok, h.1, h.2⟩
theorem st_gVerts (w0 : World) (p : Nat) (two : Bool) (s : Sp) (hs : Eqv s awS) : StartOk w0 p 8 two ((bs [118, 101, 114, 116, 105, 99, 101, 115], 0, false), 258) s := by
  have key : ∀ r : Int, 0 ≤ r ∧ r ≤ 4096 → fitsB (Gh.verts ⟨awP, r⟩) awS = true → (Pg.run (Gh.verts ⟨awP, r⟩) awS).1 = ([], 0) →
      Vc.Fn PP w0 [] 94 [strV awP r, spP p] [SpaceA p s] (fun v Γ => ∃ ad n cap, v = .tuple #[.slice ad n cap, .int .i64 0] ∧ n = 0 ∧ Γ = [SpaceA p (Pg.run (Gh.verts ⟨awP, r⟩) s).2]) := fun r hr hB hv => by
    obtain ⟨h1, _⟩ := Pg.run_eqv (Gh.verts ⟨awP, r⟩) hs
    refine (ghVerts w0 p ⟨awP, r⟩ (ghOk r hr) s (fitsB_eqv _ hs hB)).mono fun v Γ ⟨ad, cap, e1, e2⟩ => ?_
    rw [h1, hv] at e1
    exact ⟨ad, 0, cap, e1, rfl, e2⟩
  cases two with
  | false =>
    have h2 := (Pg.run_eqv (Gh.verts ⟨awP, 72⟩) hs).2
    refine ⟨_, doE w0 [] p awP 8 72 _ none 0 0 ((bs [118, 101, 114, 116, 105, 99, 101, 115], 0, false), 258) (by kernel_rfl) (by decide +kernel) rfl s _ _ (clo_gVerts w0 [] p awP 72 _ s _ 0 0 (key 72 (by decide) (by decide +kernel) (by decide +kernel))), ?_, ?_⟩
    · rw [h2.ended]; decide +kernel
    · exact .inr (by rw [h2.puts]; decide +kernel)
  | true =>
    have h2 := (Pg.run_eqv (Gh.verts ⟨awP, 152⟩) hs).2
    refine ⟨_, doE w0 [] p awP 8 152 _ none 0 0 ((bs [118, 101, 114, 116, 105, 99, 101, 115], 0, false), 258) (by kernel_rfl) (by decide +kernel) rfl s _ _ (clo_gVerts w0 [] p awP 152 _ s _ 0 0 (key 152 (by decide) (by decide +kernel) (by decide +kernel))), ?_, ?_⟩
    · rw [h2.ended]; decide +kernel
    · exact .inr (by rw [h2.puts]; decide +kernel)
theorem arOk (r : Int) (h : 0 ≤ r ∧ r ≤ 4096 := by decide) : (⟨awP, r⟩ : Ar).Ok := ⟨awP_ok, h.1, h.2⟩
theorem st_aLen (w0 : World) (p : Nat) (two : Bool) (s : Sp) (hs : Eqv s awS) : StartOk w0 p 7 two ((bs [108, 101, 110], 0, false), 220) s := by
  have hsm : Sm s 0 := by unfold Sm; rw [hs.puts]; decide
  cases two with
  | false =>
    have h := len_spec w0 p ⟨awP, 64⟩ (arOk 64) s hsm
    have h2 := hs.get ((⟨awP, 64⟩ : Ar).root + 1)
    have h3 : (s.get ((⟨awP, 64⟩ : Ar).root + 1)).1 = 0 := h2.1.trans (by decide +kernel)
    rw [h3] at h
    refine ⟨_, doE w0 [] p awP 7 64 _ none 0 0 ((bs [108, 101, 110], 0, false), 220) (by kernel_rfl) (by decide +kernel) rfl s _ _ (clo_aLen w0 [] p awP 64 _ s _ 0 h), ?_, ?_⟩
    · exact h2.2.ended.trans (by decide +kernel)
    · exact .inr (h2.2.puts.trans (by decide +kernel))
  | true =>
    have h := len_spec w0 p ⟨awP, 144⟩ (arOk 144) s hsm
    have h2 := hs.get ((⟨awP, 144⟩ : Ar).root + 1)
    have h3 : (s.get ((⟨awP, 144⟩ : Ar).root + 1)).1 = 0 := h2.1.trans (by decide +kernel)
    rw [h3] at h
    refine ⟨_, doE w0 [] p awP 7 144 _ none 0 0 ((bs [108, 101, 110], 0, false), 220) (by kernel_rfl) (by decide +kernel) rfl s _ _ (clo_aLen w0 [] p awP 144 _ s _ 0 h), ?_, ?_⟩
    · exact h2.2.ended.trans (by decide +kernel)
    · exact .inr (h2.2.puts.trans (by decide +kernel))
theorem ar_pop0 (r : Int) (s : Sp) (h : (s.get ((⟨awP, r⟩ : Ar).root + 1)).1 = 0) : (⟨awP, r⟩ : Ar).pop s = (0, 8, ((s.get ((⟨awP, r⟩ : Ar).root + 1)).2.get ((⟨awP, r⟩ : Ar).root + 2)).2) := by
  have hm : ((⟨awP, r⟩ : Ar).many s).1 = 0 ∧ ((⟨awP, r⟩ : Ar).many s).2.2.2 = ((s.get ((⟨awP, r⟩ : Ar).root + 1)).2.get ((⟨awP, r⟩ : Ar).root + 2)).2 := by
    unfold Ar.many
    rw [h, if_neg (by decide)]
    exact ⟨rfl, rfl⟩
  unfold Ar.pop
  dsimp only
  rw [if_pos hm.1, hm.2]
theorem st_aPop_false (w0 : World) (hw : PowOk w0) (p : Nat) (s : Sp) (hs : Eqv s awS) : StartOk w0 p 7 false ((bs [112, 111, 112], 0, true), 216) s := by
  have hsm : Sm s 24 := by unfold Sm; rw [hs.puts]; decide
  have h := pop_spec w0 hw p ⟨awP, 64⟩ (arOk 64) s hsm
  have h2 := hs.get ((⟨awP, 64⟩ : Ar).root + 1)
  have h4 := h2.2.get ((⟨awP, 64⟩ : Ar).root + 2)
  rw [ar_pop0 64 s (h2.1.trans (by decide +kernel))] at h
  have h5 : FnE PP w0 [] _ _ _ (encI2 (0, 8)) _ := h
  refine ⟨_, doE w0 [] p awP 7 64 _ none 0 0 ((bs [112, 111, 112], 0, true), 216) (by kernel_rfl) (by decide +kernel) rfl s _ _ (clo_aPop w0 [] p awP 64 _ s _ (0, 8) h5), ?_, ?_⟩
  · exact h4.2.ended.trans (by decide +kernel)
  · exact .inr (h4.2.puts.trans (by decide +kernel))
theorem st_aPop_true (w0 : World) (hw : PowOk w0) (p : Nat) (s : Sp) (hs : Eqv s awS) : StartOk w0 p 7 true ((bs [112, 111, 112], 0, true), 216) s := by
  have hsm : Sm s 24 := by unfold Sm; rw [hs.puts]; decide
  have h := pop_spec w0 hw p ⟨awP, 144⟩ (arOk 144) s hsm
  have h2 := hs.get ((⟨awP, 144⟩ : Ar).root + 1)
  have h4 := h2.2.get ((⟨awP, 144⟩ : Ar).root + 2)
  rw [ar_pop0 144 s (h2.1.trans (by decide +kernel))] at h
  have h5 : FnE PP w0 [] _ _ _ (encI2 (0, 8)) _ := h
  refine ⟨_, doE w0 [] p awP 7 144 _ none 0 0 ((bs [112, 111, 112], 0, true), 216) (by kernel_rfl) (by decide +kernel) rfl s _ _ (clo_aPop w0 [] p awP 144 _ s _ (0, 8) h5), ?_, ?_⟩
  · exact h4.2.ended.trans (by decide +kernel)
  · exact .inr (h4.2.puts.trans (by decide +kernel))
theorem first_get (w0 : World) : FnE PP w0 [] 22 [.string (bs [103, 101, 116])] [] (encI2 (firstQ (bs [103, 101, 116]))) [] := by
  rw [show firstQ (bs [103, 101, 116]) = (0, 0) by decide +kernel]
  refine fn_of_run en22 fn22 rfl rfl rfl ?_
  repeat' (first | refine zck ?_ | refine zcp (by kernel_rfl) ?_ | refine zcm ?_ | refine zcl ?_ | refine zcn ?_ | (refine zap rfl ?_; first | refine reg_eqST rfl rfl (by decide +kernel) ?_ | refine reg_eqSF rfl rfl (by decide +kernel) ?_ | refine zan rfl ?_ | refine zan rfl ?_) | refine zch ?_ | refine zcj rfl ?_)
  exact ret_tmp2 rfl ⟨rfl, rfl⟩
theorem first_pop (w0 : World) : FnE PP w0 [] 22 [.string (bs [112, 111, 112])] [] (encI2 (firstQ (bs [112, 111, 112]))) [] := by
  rw [show firstQ (bs [112, 111, 112]) = (0, 8) by decide +kernel]
  refine fn_of_run en22 fn22 rfl rfl rfl ?_
  repeat' (first | refine zck ?_ | refine zcp (by kernel_rfl) ?_ | refine zcm ?_ | refine zcl ?_ | (refine zap rfl ?_; first | refine reg_eqST rfl rfl (by decide +kernel) ?_ | refine reg_eqSF rfl rfl (by decide +kernel) ?_ | refine zan rfl ?_ | refine zan rfl ?_) | refine zch ?_ | refine zci rfl ?_)
  exact ret_tmp2 rfl ⟨rfl, rfl⟩
theorem first_top (w0 : World) : FnE PP w0 [] 22 [.string (bs [116, 111, 112])] [] (encI2 (firstQ (bs [116, 111, 112]))) [] := by
  rw [show firstQ (bs [116, 111, 112]) = (0, 8) by decide +kernel]
  refine fn_of_run en22 fn22 rfl rfl rfl ?_
  repeat' (first | refine zck ?_ | refine zcp (by kernel_rfl) ?_ | refine zcm ?_ | refine zcl ?_ | (refine zap rfl ?_; first | refine reg_eqST rfl rfl (by decide +kernel) ?_ | refine reg_eqSF rfl rfl (by decide +kernel) ?_ | refine zan rfl ?_ | refine zan rfl ?_) | refine zch ?_ | refine zci rfl ?_ | refine zcj rfl ?_)
  exact ret_tmp2 rfl ⟨rfl, rfl⟩
theorem first_len (w0 : World) : FnE PP w0 [] 22 [.string (bs [108, 101, 110])] [] (encI2 (firstQ (bs [108, 101, 110]))) [] := by
  rw [show firstQ (bs [108, 101, 110]) = (0, 0) by decide +kernel]
  refine fn_of_run en22 fn22 rfl rfl rfl ?_
  repeat' (first | refine zck ?_ | refine zcp (by kernel_rfl) ?_ | refine zcm ?_ | refine zcl ?_ | refine zcn ?_ | (refine zap rfl ?_; first | refine reg_eqST rfl rfl (by decide +kernel) ?_ | refine reg_eqSF rfl rfl (by decide +kernel) ?_ | refine zan rfl ?_ | refine zan rfl ?_) | refine zch ?_ | refine zcj rfl ?_)
  exact ret_tmp2 rfl ⟨rfl, rfl⟩
theorem first_take (w0 : World) : FnE PP w0 [] 22 [.string (bs [116, 97, 107, 101])] [] (encI2 (firstQ (bs [116, 97, 107, 101]))) [] := by
  rw [show firstQ (bs [116, 97, 107, 101]) = (0, 8) by decide +kernel]
  refine fn_of_run en22 fn22 rfl rfl rfl ?_
  repeat' (first | refine zck ?_ | refine zcp (by kernel_rfl) ?_ | refine zcm ?_ | refine zcl ?_ | (refine zap rfl ?_; first | refine reg_eqST rfl rfl (by decide +kernel) ?_ | refine reg_eqSF rfl rfl (by decide +kernel) ?_ | refine zan rfl ?_ | refine zan rfl ?_) | refine zch ?_ | refine zci rfl ?_ | refine zcj rfl ?_)
  exact ret_tmp2 rfl ⟨rfl, rfl⟩
theorem first_first (w0 : World) : FnE PP w0 [] 22 [.string (bs [102, 105, 114, 115, 116])] [] (encI2 (firstQ (bs [102, 105, 114, 115, 116]))) [] := by
  rw [show firstQ (bs [102, 105, 114, 115, 116]) = (0, 8) by decide +kernel]
  refine fn_of_run en22 fn22 rfl rfl rfl ?_
  repeat' (first | refine zck ?_ | refine zcp (by kernel_rfl) ?_ | refine zcm ?_ | refine zcl ?_ | (refine zap rfl ?_; first | refine reg_eqST rfl rfl (by decide +kernel) ?_ | refine reg_eqSF rfl rfl (by decide +kernel) ?_ | refine zan rfl ?_ | refine zan rfl ?_) | refine zch ?_ | refine zci rfl ?_ | refine zcj rfl ?_)
  exact ret_tmp2 rfl ⟨rfl, rfl⟩
theorem first_pop_left (w0 : World) : FnE PP w0 [] 22 [.string (bs [112, 111, 112, 95, 108, 101, 102, 116])] [] (encI2 (firstQ (bs [112, 111, 112, 95, 108, 101, 102, 116]))) [] := by
  rw [show firstQ (bs [112, 111, 112, 95, 108, 101, 102, 116]) = (0, 8) by decide +kernel]
  refine fn_of_run en22 fn22 rfl rfl rfl ?_
  repeat' (first | refine zck ?_ | refine zcp (by kernel_rfl) ?_ | refine zcm ?_ | refine zcl ?_ | (refine zap rfl ?_; first | refine reg_eqST rfl rfl (by decide +kernel) ?_ | refine reg_eqSF rfl rfl (by decide +kernel) ?_ | refine zan rfl ?_ | refine zan rfl ?_) | refine zch ?_ | refine zci rfl ?_ | refine zcj rfl ?_)
  exact ret_tmp2 rfl ⟨rfl, rfl⟩
theorem first_pop_right (w0 : World) : FnE PP w0 [] 22 [.string (bs [112, 111, 112, 95, 114, 105, 103, 104, 116])] [] (encI2 (firstQ (bs [112, 111, 112, 95, 114, 105, 103, 104, 116]))) [] := by
  rw [show firstQ (bs [112, 111, 112, 95, 114, 105, 103, 104, 116]) = (0, 8) by decide +kernel]
  refine fn_of_run en22 fn22 rfl rfl rfl ?_
  repeat' (first | refine zck ?_ | refine zcp (by kernel_rfl) ?_ | refine zcm ?_ | refine zcl ?_ | (refine zap rfl ?_; first | refine reg_eqST rfl rfl (by decide +kernel) ?_ | refine reg_eqSF rfl rfl (by decide +kernel) ?_ | refine zan rfl ?_ | refine zan rfl ?_) | refine zch ?_ | refine zci rfl ?_ | refine zcj rfl ?_)
  exact ret_tmp2 rfl ⟨rfl, rfl⟩
theorem first_left (w0 : World) : FnE PP w0 [] 22 [.string (bs [108, 101, 102, 116])] [] (encI2 (firstQ (bs [108, 101, 102, 116]))) [] := by
  rw [show firstQ (bs [108, 101, 102, 116]) = (0, 8) by decide +kernel]
  refine fn_of_run en22 fn22 rfl rfl rfl ?_
  repeat' (first | refine zck ?_ | refine zcp (by kernel_rfl) ?_ | refine zcm ?_ | refine zcl ?_ | (refine zap rfl ?_; first | refine reg_eqST rfl rfl (by decide +kernel) ?_ | refine reg_eqSF rfl rfl (by decide +kernel) ?_ | refine zan rfl ?_ | refine zan rfl ?_) | refine zch ?_ | refine zci rfl ?_ | refine zcj rfl ?_)
  exact ret_tmp2 rfl ⟨rfl, rfl⟩
theorem first_right (w0 : World) : FnE PP w0 [] 22 [.string (bs [114, 105, 103, 104, 116])] [] (encI2 (firstQ (bs [114, 105, 103, 104, 116]))) [] := by
  rw [show firstQ (bs [114, 105, 103, 104, 116]) = (0, 8) by decide +kernel]
  refine fn_of_run en22 fn22 rfl rfl rfl ?_
  repeat' (first | refine zck ?_ | refine zcp (by kernel_rfl) ?_ | refine zcm ?_ | refine zcl ?_ | (refine zap rfl ?_; first | refine reg_eqST rfl rfl (by decide +kernel) ?_ | refine reg_eqSF rfl rfl (by decide +kernel) ?_ | refine zan rfl ?_ | refine zan rfl ?_) | refine zch ?_ | refine zci rfl ?_ | refine zcj rfl ?_)
  exact ret_tmp2 rfl ⟨rfl, rfl⟩
theorem first_min (w0 : World) : FnE PP w0 [] 22 [.string (bs [109, 105, 110])] [] (encI2 (firstQ (bs [109, 105, 110]))) [] := by
  rw [show firstQ (bs [109, 105, 110]) = (0, 8) by decide +kernel]
  refine fn_of_run en22 fn22 rfl rfl rfl ?_
  repeat' (first | refine zck ?_ | refine zcp (by kernel_rfl) ?_ | refine zcm ?_ | refine zcl ?_ | (refine zap rfl ?_; first | refine reg_eqST rfl rfl (by decide +kernel) ?_ | refine reg_eqSF rfl rfl (by decide +kernel) ?_ | refine zan rfl ?_ | refine zan rfl ?_) | refine zch ?_ | refine zci rfl ?_ | refine zcj rfl ?_)
  exact ret_tmp2 rfl ⟨rfl, rfl⟩
theorem first_least (w0 : World) : FnE PP w0 [] 22 [.string (bs [108, 101, 97, 115, 116])] [] (encI2 (firstQ (bs [108, 101, 97, 115, 116]))) [] := by
  rw [show firstQ (bs [108, 101, 97, 115, 116]) = (0, 8) by decide +kernel]
  refine fn_of_run en22 fn22 rfl rfl rfl ?_
  repeat' (first | refine zck ?_ | refine zcp (by kernel_rfl) ?_ | refine zcl ?_ | (refine zap rfl ?_; first | refine reg_eqST rfl rfl (by decide +kernel) ?_ | refine reg_eqSF rfl rfl (by decide +kernel) ?_ | refine zan rfl ?_ | refine zan rfl ?_) | refine zch ?_ | refine zci rfl ?_ | refine zcj rfl ?_)
  exact ret_tmp2 rfl ⟨rfl, rfl⟩
theorem first_vertices (w0 : World) : FnE PP w0 [] 22 [.string (bs [118, 101, 114, 116, 105, 99, 101, 115])] [] (encI2 (firstQ (bs [118, 101, 114, 116, 105, 99, 101, 115]))) [] := by
  rw [show firstQ (bs [118, 101, 114, 116, 105, 99, 101, 115]) = (0, 0) by decide +kernel]
  refine fn_of_run en22 fn22 rfl rfl rfl ?_
  repeat' (first | refine zck ?_ | refine zcp (by kernel_rfl) ?_ | refine zcm ?_ | refine zcl ?_ | refine zcn ?_ | (refine zap rfl ?_; first | refine reg_eqST rfl rfl (by decide +kernel) ?_ | refine reg_eqSF rfl rfl (by decide +kernel) ?_ | refine zan rfl ?_ | refine zan rfl ?_) | refine zch ?_ | refine zcj rfl ?_)
  exact ret_tmp2 rfl ⟨rfl, rfl⟩
theorem first_edges (w0 : World) : FnE PP w0 [] 22 [.string (bs [101, 100, 103, 101, 115])] [] (encI2 (firstQ (bs [101, 100, 103, 101, 115]))) [] := by
  rw [show firstQ (bs [101, 100, 103, 101, 115]) = (0, 0) by decide +kernel]
  refine fn_of_run en22 fn22 rfl rfl rfl ?_
  repeat' (first | refine zck ?_ | refine zcp (by kernel_rfl) ?_ | refine zcm ?_ | refine zcl ?_ | refine zcn ?_ | (refine zap rfl ?_; first | refine reg_eqST rfl rfl (by decide +kernel) ?_ | refine reg_eqSF rfl rfl (by decide +kernel) ?_ | refine zan rfl ?_ | refine zan rfl ?_) | refine zch ?_ | refine zcj rfl ?_)
  exact ret_tmp2 rfl ⟨rfl, rfl⟩
theorem first_make (w0 : World) : FnE PP w0 [] 22 [.string (bs [109, 97, 107, 101])] [] (encI2 (firstQ (bs [109, 97, 107, 101]))) [] := by
  rw [show firstQ (bs [109, 97, 107, 101]) = (1, 0) by decide +kernel]
  refine fn_of_run en22 fn22 rfl rfl rfl ?_
  repeat' (first | refine zck ?_ | refine zcp (by kernel_rfl) ?_ | refine zcl ?_ | (refine zap rfl ?_; first | refine reg_eqST rfl rfl (by decide +kernel) ?_ | refine reg_eqSF rfl rfl (by decide +kernel) ?_ | refine zan rfl ?_ | refine zan rfl ?_) | refine zch ?_ | refine zci rfl ?_ | refine zcj rfl ?_)
  exact ret_tmp2 rfl ⟨rfl, rfl⟩
theorem first_undo (w0 : World) : FnE PP w0 [] 22 [.string (bs [117, 110, 100, 111])] [] (encI2 (firstQ (bs [117, 110, 100, 111]))) [] := by
  rw [show firstQ (bs [117, 110, 100, 111]) = (0, 0) by decide +kernel]
  refine fn_of_run en22 fn22 rfl rfl rfl ?_
  repeat' (first | refine zck ?_ | refine zcp (by kernel_rfl) ?_ | refine zcm ?_ | refine zcl ?_ | refine zcn ?_ | (refine zap rfl ?_; first | refine reg_eqST rfl rfl (by decide +kernel) ?_ | refine reg_eqSF rfl rfl (by decide +kernel) ?_ | refine zan rfl ?_ | refine zan rfl ?_) | refine zch ?_ | refine zcj rfl ?_)
  exact ret_tmp2 rfl ⟨rfl, rfl⟩
theorem first_sets (w0 : World) : FnE PP w0 [] 22 [.string (bs [115, 101, 116, 115])] [] (encI2 (firstQ (bs [115, 101, 116, 115]))) [] := by
  rw [show firstQ (bs [115, 101, 116, 115]) = (0, 0) by decide +kernel]
  refine fn_of_run en22 fn22 rfl rfl rfl ?_
  repeat' (first | refine zck ?_ | refine zcp (by kernel_rfl) ?_ | refine zcm ?_ | refine zcl ?_ | refine zcn ?_ | (refine zap rfl ?_; first | refine reg_eqST rfl rfl (by decide +kernel) ?_ | refine reg_eqSF rfl rfl (by decide +kernel) ?_ | refine zan rfl ?_ | refine zan rfl ?_) | refine zch ?_ | refine zcj rfl ?_)
  exact ret_tmp2 rfl ⟨rfl, rfl⟩
end Go.Proofs.YtgdhcgnmffgkiaaGreatDoor

namespace Sim
open Go Go.Vc
end Sim

namespace Go.Vc
end Go.Vc
namespace Sim
open Go Go.Vc
end Sim
namespace Go.Proofs.YtgdhcgnmffgkiaaGreatDoor
open Go.Vc Sim
set_option maxHeartbeats 4000000
end Go.Proofs.YtgdhcgnmffgkiaaGreatDoor

