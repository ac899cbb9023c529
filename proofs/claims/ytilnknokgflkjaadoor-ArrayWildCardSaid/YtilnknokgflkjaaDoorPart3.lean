import Derived.Test.YtilnknokgflkjaaDoorRows
import Derived.Test.YtilnknokgflkjaaDoorTie
import Derived.Test.YtilnknokgflkjaaDoorCards
import Derived.SevenTiedAt
import Derived.Sort.AssemblyPlain
import Derived.Test.YtilnknokgflkjaaDoorPart2
import Derived.Test.YtilnknokgflkjaaDoorKit
import Derived.Test.YtilnknokgflkjaaDoorPart1
/- Lemmas and walks for the claims of this seat (own work): Ar13 St0 Pw0 Pw1 Pw2 Pw3 Pw4 Pw5 Pw6 Pw7 Pw8 Pw9 La0 La1 La2 Cd0 Fa0 Fa1 Fa2 So0. -/
/- The walk of Pop. -/
namespace Go.Proofs.YtilnknokgflkjaaDoor
open Go.Vc Sim
set_option maxHeartbeats 4000000
theorem pop_spec (w0 : World) (hw : PowOk w0) (p : Nat) (A : Ar) (hA : A.Ok) (s : Sp) (hsm : Sm s 24) :
    Vc.Fn PP w0 [] 12 [arrV A, spP p] [SpaceA p s] (pushRV p (A.pop s)) := by
  obtain ⟨_, h1, h2⟩ := id hA
  obtain ⟨T, fr, hw2⟩ := id hw
  generalize hm : A.many s = m
  have hsm2 : Sm m.2.2.2 24 := hm ▸ sm_many hsm
  have hM := many_spec w0 hw p A hA s (hsm.mono (by decide))
  rw [hm] at hM
  have hmo := many_ok (A := A) (s := s)
  rw [hm] at hmo
  refine fn_of_run en12 fn12 rfl rfl rfl ?_
  repeat (first | refine zck ?_ | refine zcl ?_ | refine zcm ?_ | refine zcn ?_)
  first | refine zcp (by kernel_rfl) ?_ | refine zcq PP_mixed (by kernel_rfl) (by kernel_rfl) ?_
  repeat' (refine zap rfl ?_; first | ((with_reducible refine zdg ?_); first | refine zaq (cs := [_]) rfl (fun nb => ?_) | refine zaq (cs := [_, _, _, _]) rfl (fun nb => ?_)) | ((with_reducible refine zdh ?_); refine zar (fun nb => ?_)))
  all_goals refine zch ?_
  all_goals repeat (first | refine zck ?_ | refine zcl ?_ | refine zcm ?_ | refine zcn ?_)
  rename_i b2 b3 vb
  revert nb; intro eb
  refine run_share [1] rfl ?_
  refine run_share_keep [1] rfl ?_
  repeat (first | refine zck ?_ | refine zcl ?_ | refine zcm ?_ | refine zcn ?_)
  first | refine zcp (by kernel_rfl) ?_ | refine zcq PP_mixed (by kernel_rfl) (by kernel_rfl) ?_
  repeat' (refine zap rfl ?_; first | ((with_reducible refine zcu ?_); refine zan rfl ?_) | ((with_reducible refine zcv ?_); refine zan rfl ?_) | ((with_reducible refine zcw ?_); first | refine zaa 0 rfl rfl rfl ?_ | refine zaa 1 rfl rfl rfl ?_) | ((with_reducible refine zcx ?_); refine zah [0] hM rfl rfl rfl sub_nil rfl ?_) | ((with_reducible refine zcz ?_); refine zan rfl ?_))
  all_goals refine zch ?_
  all_goals repeat (first | refine zck ?_ | refine zcl ?_ | refine zcm ?_ | refine zcn ?_)
  repeat (first | refine zck ?_ | refine zcl ?_ | refine zcm ?_ | refine zcn ?_)
  first | refine zcp (by kernel_rfl) ?_ | refine zcq PP_mixed (by kernel_rfl) (by kernel_rfl) ?_
  repeat' (refine zap rfl ?_; first | ((with_reducible refine zcu ?_); refine zan rfl ?_) | ((with_reducible refine zcv ?_); refine zan rfl ?_) | ((with_reducible refine zda ?_); refine zbo rfl rfl ?_))
  all_goals refine zch ?_
  all_goals repeat (first | refine zck ?_ | refine zcl ?_ | refine zcm ?_ | refine zcn ?_)
  refine run_slots [(2, ptr b2), (3, ptr b3), (4, ptr vb), (5, ptr eb), (6, .int .i64 m.1), (7, .int .i64 m.2.1), (8, .bool m.2.2.1), (26, .bool (decide (m.1 = 0)))] ⟨rfl, rfl, rfl, rfl, rfl, rfl, rfl, rfl, trivial⟩ (fun junk => ?_)
  refine run_cond rfl (fun hZ => ?_) (fun hZ => ?_)
  · have e : A.pop s = (0, 8, m.2.2.2) := by simp only [Ar.pop, hm]; rw [if_pos hZ]
    repeat' (first | refine zck ?_ | refine zcp (by kernel_rfl) ?_ | (refine zap rfl ?_; first | ((with_reducible refine zdd ?_); first | refine zae 1 rfl rfl rfl rfl rfl rfl rfl ?_ | refine zae 2 rfl rfl rfl rfl rfl rfl rfl ?_)) | refine zch ?_)
    rw [e]
    exact run_ret (leaves_nil (ends_take [0] rfl (ends_two rfl (resOk_pt 1 rfl rfl rfl) (resOk_pt 2 rfl rfl rfl) ⟨rfl, rfl, rfl⟩)))
  repeat (first | refine zck ?_ | refine zcl ?_ | refine zcm ?_ | refine zcn ?_)
  first | refine zcp (by kernel_rfl) ?_ | refine zcq PP_mixed (by kernel_rfl) (by kernel_rfl) ?_
  repeat' (refine zap rfl ?_; first | ((with_reducible refine zcu ?_); refine zan rfl ?_) | ((with_reducible refine zcv ?_); refine zan rfl ?_) | ((with_reducible refine zdb ?_); refine zbx rfl ?_))
  all_goals refine zch ?_
  all_goals repeat (first | refine zck ?_ | refine zcl ?_ | refine zcm ?_ | refine zcn ?_)
  refine run_slots [(2, ptr b2), (3, ptr b3), (4, ptr vb), (5, ptr eb), (6, .int .i64 m.1), (7, .int .i64 m.2.1), (29, .bool (!m.2.2.1))] ⟨rfl, rfl, rfl, rfl, rfl, rfl, rfl, trivial⟩ (fun junk => ?_)
  refine run_condV rfl (fun hE => ?_) (fun hE => ?_)
  · have hE : m.2.2.1 = false := by simpa using hE
    have e : A.pop s = (0, 24, m.2.2.2) := by simp only [Ar.pop, hm]; rw [if_neg hZ, hE, if_neg (by decide)]
    repeat' (first | refine zck ?_ | refine zcp (by kernel_rfl) ?_ | (refine zap rfl ?_; first | ((with_reducible refine zdd ?_); first | refine zae 1 rfl rfl rfl rfl rfl rfl rfl ?_ | refine zae 2 rfl rfl rfl rfl rfl rfl rfl ?_)) | refine zch ?_)
    rw [e]
    exact run_ret (leaves_nil (ends_take [0] rfl (ends_two rfl (resOk_pt 1 rfl rfl rfl) (resOk_pt 2 rfl rfl rfl) ⟨rfl, rfl, rfl⟩)))
  have hE : m.2.2.1 = true := by simpa using hE
  obtain ⟨_, hn0, hn1, hn2⟩ := hmo hE
  have e : A.pop s = Ar.undoPop m.2.2.2.puts.length (A.popIn m.1 m.2.1.toNat m.2.2.2) := by simp only [Ar.pop, hm]; rw [if_neg hZ, if_pos hE]
  rw [e]
  have hd4 := dep_le m.1
  have hd5 := dep_le (m.1 - 1)
  have hd6 : 0 < dep m.1 := by unfold dep; (repeat' split) <;> omega
  have hd7 : dep (m.1 - 1) ≤ dep m.1 := by unfold dep; (repeat' split) <;> omega
  have hdd : m.2.1.toNat = dep m.1 := by omega
  rw [hdd, hn2]
  generalize hmk : m.2.2.2.puts.length = mk
  generalize dep m.1 = d at *
  generalize hnn : m.1 = n at *
  generalize hss : m.2.2.2 = t at *
  have hMk := mark_spec w0 p t
  rw [hmk] at hMk
  repeat (first | refine zck ?_ | refine zcl ?_ | refine zcm ?_ | refine zcn ?_)
  first | refine zcp (by kernel_rfl) ?_ | refine zcq PP_mixed (by kernel_rfl) (by kernel_rfl) ?_
  repeat' (refine zap rfl ?_; first | ((with_reducible refine zcw ?_); refine zaa 0 rfl rfl rfl ?_) | ((with_reducible refine zcx ?_); refine zah [0] hMk rfl rfl rfl sub_nil rfl ?_) | ((with_reducible refine zdd ?_); refine zae 3 rfl rfl rfl rfl rfl rfl rfl ?_) | ((with_reducible refine zdh ?_); refine zar (fun nb => ?_)))
  all_goals refine zch ?_
  all_goals repeat (first | refine zck ?_ | refine zcl ?_ | refine zcm ?_ | refine zcn ?_)
  have fin := pop_fin w0 p b3 nb eb vb mk (A.popIn n d t)
  repeat (first | refine zck ?_ | refine zcl ?_ | refine zcm ?_ | refine zcn ?_)
  first | refine zcp (by kernel_rfl) ?_ | refine zcq PP_mixed (by kernel_rfl) (by kernel_rfl) ?_
  repeat' (refine zap rfl ?_; first | refine zcd rfl rfl ?_ | refine zan rfl ?_)
  all_goals refine zch ?_
  all_goals repeat (first | refine zck ?_ | refine zcl ?_ | refine zcm ?_ | refine zcn ?_)
  refine run_slots [(2, ptr b2), (3, ptr b3), (4, ptr vb), (5, ptr eb), (6, .int .i64 n), (7, .int .i64 (d : Int))] ⟨rfl, rfl, rfl, rfl, rfl, rfl, trivial⟩ (fun junk => ?_)
  show Run PP w0 _ _ _ _ _ [popD b3 nb eb vb] [SpaceA p t, vV vb 0, eV eb 0, mV nb mk]
  have hWs := way_spec w0 hw p A hA (n - 1) (by omega) d hd4 (d : Int) rfl t (hsm2.mono (by decide))
  have hWl := way_len A (n - 1) d A.root t []
  have hsm4 : Sm (A.way (n - 1) d A.root t []).2 24 := sm_way hsm2
  have hr : A.popIn n d t = A.popIn n d t := rfl
  conv at hr => rhs; unfold Ar.popIn
  generalize hW : A.way (n - 1) d A.root t [] = W at hr hWs hWl hsm4
  obtain ⟨o, t2⟩ := W
  cases o with
  | none =>
    have hWn : FnE PP w0 [] 34 [arrV A, spP p, .int .i64 (n - 1), .int .i64 d] [SpaceA p t] (.tuple #[.slice none 0 0, .bool false]) [SpaceA p t2] := hWs
    repeat' (first | refine zck ?_ | refine zcp (by kernel_rfl) ?_ | (refine zap rfl ?_; first | ((with_reducible refine zcu ?_); refine zan rfl ?_) | ((with_reducible refine zcv ?_); refine zan rfl ?_) | ((with_reducible refine zcw ?_); first | refine zaa 0 rfl rfl rfl ?_ | refine zaa 1 rfl rfl rfl ?_) | ((with_reducible refine zcx ?_); refine zah [0] hWn rfl rfl rfl sub_nil rfl ?_) | ((with_reducible refine zcz ?_); refine zan rfl ?_) | ((with_reducible refine zda ?_); refine zav rfl rfl (by omega) ?_) | ((with_reducible refine zdb ?_); refine zbx rfl ?_) | ((with_reducible refine zdd ?_); first | refine zae 1 rfl rfl rfl rfl rfl rfl rfl ?_ | refine zae 2 rfl rfl rfl rfl rfl rfl rfl ?_)) | refine zch ?_ | refine zci rfl ?_)
    exact run_ret (fin _ _ _ _ rfl rfl hr)
  | some l =>
    have hl : l.length = d := by have := (hWl l rfl).1; simpa using this
    have hlb : ∀ x ∈ l, 0 ≤ x ∧ x ≤ 4096 := (hWl l rfl).2 (by simp)
    have hgD : ∀ k, k < d → l[k]? = some (l.getD k 0) ∧ 0 ≤ l.getD k 0 ∧ l.getD k 0 ≤ 4096 := fun k hk => by
      have h1 : l[k]? = some l[k] := List.getElem?_eq_getElem (by omega)
      have h2 : l.getD k 0 = l[k] := by simp [List.getD, h1]
      rw [h2]; exact ⟨h1, hlb _ (List.getElem_mem _)⟩
    dsimp only at hr hsm4
    repeat (first | refine zck ?_ | refine zcl ?_ | refine zcm ?_ | refine zcn ?_)
    first | refine zcp (by kernel_rfl) ?_ | refine zcq PP_mixed (by kernel_rfl) (by kernel_rfl) ?_
    repeat' (refine zap rfl ?_; first | (refine zai [0] hWs rfl rfl rfl sub_nil ?_; rintro v Γ' ⟨a, cap, rfl, rfl⟩) | ((with_reducible refine zcu ?_); refine zan rfl ?_) | ((with_reducible refine zcv ?_); refine zan rfl ?_) | ((with_reducible refine zcw ?_); first | refine zaa 0 rfl rfl rfl ?_ | refine zaa 1 rfl rfl rfl ?_) | ((with_reducible refine zcz ?_); refine zan rfl ?_) | ((with_reducible refine zda ?_); refine zav rfl rfl (by omega) ?_))
    all_goals refine zch ?_
    all_goals repeat (first | refine zck ?_ | refine zcl ?_ | refine zcm ?_ | refine zcn ?_)
    repeat (first | refine zck ?_ | refine zcl ?_ | refine zcm ?_ | refine zcn ?_)
    first | refine zcp (by kernel_rfl) ?_ | refine zcq PP_mixed (by kernel_rfl) (by kernel_rfl) ?_
    repeat' (refine zap rfl ?_; first | ((with_reducible refine zcu ?_); refine zan rfl ?_) | ((with_reducible refine zdb ?_); refine zbx rfl ?_))
    all_goals refine zch ?_
    all_goals repeat (first | refine zck ?_ | refine zcl ?_ | refine zcm ?_ | refine zcn ?_)
    refine zcj rfl ?_
    refine run_sl_cases 1 rfl (fun _ hz _ _ => absurd hz (by omega)) ?_
    intro lb e1 e2 e3
    subst e1
    refine run_share_sl [1] rfl (fun spare => ?_)
    have hrd : ∀ k, k < d → ∀ o, o = k → rd false 1 (intL l ++ spare) o = some (.int .i64 (l.getD k 0)) := by
      intro k hk o ho; subst ho; exact rd_append (intL_get _ _ _ (hgD _ hk).1) (by intro h; cases h)
    refine run_slots [(2, ptr b2), (3, ptr b3), (4, ptr vb), (5, ptr eb), (6, .int .i64 n), (7, .int .i64 (d : Int)), (10, .slice (some ⟨lb, 0, none⟩) l.length cap)] ⟨rfl, rfl, rfl, rfl, rfl, rfl, rfl, trivial⟩ (fun junk => ?_)
    have hdg := dig_bd (n - 1) 1
    have hld := hgD (d - 1) (by omega)
    have hl0 := hgD 0 (by omega)
    have hG := getS w0 p t2 (l.getD (d - 1) 0 + dig (n - 1) 1) (hsm4.mono (by decide))
    have hsm5 : Sm (t2.get (l.getD (d - 1) 0 + dig (n - 1) 1)).2 24 := sm_get hsm4
    generalize t2.get (l.getD (d - 1) 0 + dig (n - 1) 1) = g at hr hG hsm5
    repeat (first | refine zck ?_ | refine zcl ?_ | refine zcm ?_ | refine zcn ?_ | refine zco ?_)
    repeat (first | refine zck ?_ | refine zcl ?_ | refine zcm ?_ | refine zcn ?_)
    first | refine zcp (by kernel_rfl) ?_ | refine zcq PP_mixed (by kernel_rfl) (by kernel_rfl) ?_
    repeat' (refine zap rfl ?_; first | refine zaa 0 rfl rfl (hrd (d - 1) (by omega) _ (by omega)) ?_ | ((with_reducible refine zcu ?_); refine zan rfl ?_) | ((with_reducible refine zcw ?_); refine zaa 1 rfl rfl rfl ?_) | ((with_reducible refine zcx ?_); first | refine zah [] (digit_spec w0 hw (n - 1) 1 (by omega) (by omega) _ rfl) rfl rfl rfl sub_nil rfl ?_ | refine zah [0] hG rfl rfl rfl sub_nil rfl ?_) | ((with_reducible refine zda ?_); first | refine zau rfl rfl (by omega) ?_ | refine zav rfl rfl (by omega) ?_) | ((with_reducible refine zdd ?_); refine zae 1 rfl rfl rfl rfl rfl rfl rfl ?_) | ((with_reducible refine zdf ?_); refine zas rfl rfl (by omega) ?_))
    all_goals refine zch ?_
    all_goals repeat (first | refine zck ?_ | refine zcl ?_ | refine zcm ?_ | refine zcn ?_)
    repeat (first | refine zck ?_ | refine zcl ?_ | refine zcm ?_ | refine zcn ?_)
    first | refine zcp (by kernel_rfl) ?_ | refine zcq PP_mixed (by kernel_rfl) (by kernel_rfl) ?_
    repeat' (refine zap rfl ?_; first | ((with_reducible refine zcu ?_); refine zan rfl ?_) | ((with_reducible refine zcv ?_); refine zan rfl ?_) | ((with_reducible refine zcx ?_); refine zah [] (depth_spec w0 hw _) rfl rfl rfl sub_nil rfl ?_) | ((with_reducible refine zda ?_); refine zav rfl rfl (by omega) ?_))
    all_goals refine zch ?_
    all_goals repeat (first | refine zck ?_ | refine zcl ?_ | refine zcm ?_ | refine zcn ?_)
    repeat (first | refine zck ?_ | refine zcl ?_ | refine zcm ?_ | refine zcn ?_)
    first | refine zcp (by kernel_rfl) ?_ | refine zcq PP_mixed (by kernel_rfl) (by kernel_rfl) ?_
    repeat' (refine zap rfl ?_; first | ((with_reducible refine zcv ?_); refine zan rfl ?_))
    all_goals refine zch ?_
    all_goals repeat (first | refine zck ?_ | refine zcl ?_ | refine zcm ?_ | refine zcn ?_)
    repeat (first | refine zck ?_ | refine zcl ?_ | refine zcm ?_ | refine zcn ?_)
    first | refine zcp (by kernel_rfl) ?_ | refine zcq PP_mixed (by kernel_rfl) (by kernel_rfl) ?_
    repeat' (refine zap rfl ?_; first | ((with_reducible refine zcu ?_); refine zan rfl ?_) | ((with_reducible refine zda ?_); refine zbs rfl rfl ?_))
    all_goals refine zch ?_
    all_goals repeat (first | refine zck ?_ | refine zcl ?_ | refine zcm ?_ | refine zcn ?_)
    generalize hnow : dep (n - 1) = now at *
    refine run_slots [(2, ptr b2), (3, ptr b3), (4, ptr vb), (5, ptr eb), (6, .int .i64 n), (7, .int .i64 (d : Int)), (10, .slice (some ⟨lb, 0, none⟩) l.length cap), (11, .int .i64 now), (12, .int .i64 0), (61, .bool (decide (0 < now)))] ⟨rfl, rfl, rfl, rfl, rfl, rfl, rfl, rfl, rfl, bool_eq (dec_eq (by omega)), trivial⟩ (fun junk => ?_)
    refine run_join (S := Int) (fun top => [(2, ptr b2), (3, ptr b3), (4, ptr vb), (5, ptr eb), (6, .int .i64 n), (7, .int .i64 (d : Int)), (10, .slice (some ⟨lb, 0, none⟩) l.length cap), (11, .int .i64 now), (12, .int .i64 top)])
      (fun top Γ => Γ = [SpaceA p g.2, vV vb g.1, eV eb 0, mV nb mk] ∧ top = if 0 < now then l.getD 0 0 else 0) ?_ ?_
    · by_cases h0 : 0 < now
      · refine zci (bool_eq (decide_eq_true h0)) ?_
        repeat' (first | refine zcp (by kernel_rfl) ?_ | (refine zap rfl ?_; first | refine zaa 0 rfl rfl (hrd 0 (by omega) _ (by omega)) ?_ | ((with_reducible refine zcu ?_); refine zan rfl ?_) | ((with_reducible refine zcv ?_); refine zan rfl ?_) | ((with_reducible refine zdf ?_); refine zas rfl rfl (by omega) ?_)) | refine zch ?_)
        exact cut_end ⟨rfl, _, ⟨rfl, rfl, rfl, rfl, rfl, rfl, rfl, rfl, rfl, trivial⟩, ⟨rfl, by rw [if_pos h0]⟩⟩
      · refine zcj (bool_eq (decide_eq_false h0)) ?_
        repeat (first | refine zck ?_ | refine zcl ?_ | refine zcm ?_ | refine zcn ?_ | refine zco ?_)
        exact cut_end ⟨rfl, _, ⟨rfl, rfl, rfl, rfl, rfl, rfl, rfl, rfl, rfl, trivial⟩, ⟨rfl, by rw [if_neg h0]⟩⟩
    rintro top Γ' junk ⟨rfl, htop⟩
    repeat (first | refine zck ?_ | refine zcl ?_ | refine zcm ?_ | refine zcn ?_ | refine zco ?_)
    refine run_join (S := Unit) (fun _ => [(2, ptr b2), (3, ptr b3), (4, ptr vb), (5, ptr eb), (6, .int .i64 n), (7, .int .i64 (d : Int)), (10, .slice (some ⟨lb, 0, none⟩) l.length cap), (11, .int .i64 now), (12, .int .i64 top), (71, .bool (decide (0 < now ∧ now < d)))])
      (fun _ Γ => Γ = [SpaceA p g.2, vV vb g.1, eV eb 0, mV nb mk]) ?_ ?_
    · by_cases h0 : 0 < now
      · by_cases h1 : now < d
        · have d0 : decide ((0 : Int) < (now : Int)) = true := decide_eq_true (by omega)
          have d1 : decide ((now : Int) < (d : Int)) = true := decide_eq_true (by omega)
          repeat' (first | refine zcp (by kernel_rfl) ?_ | (refine zap rfl ?_; first | (refine zbs rfl rfl ?_; rw [d0]) | (refine zbq rfl rfl ?_; rw [d1]) | ((with_reducible refine zct ?_); refine zaj rfl ?_) | ((with_reducible refine zcu ?_); refine zan rfl ?_) | ((with_reducible refine zdc ?_); refine zbu rfl ?_)) | refine zch ?_)
          exact cut_end ⟨rfl, (), ⟨rfl, rfl, rfl, rfl, rfl, rfl, rfl, rfl, rfl, bool_eq (by simp [h0, h1]), trivial⟩, rfl⟩
        · have d0 : decide ((0 : Int) < (now : Int)) = true := decide_eq_true (by omega)
          have d1 : decide ((now : Int) < (d : Int)) = false := decide_eq_false (by omega)
          repeat' (first | refine zcp (by kernel_rfl) ?_ | (refine zap rfl ?_; first | (refine zbs rfl rfl ?_; rw [d0]) | (refine zbq rfl rfl ?_; rw [d1]) | ((with_reducible refine zct ?_); refine zaj rfl ?_) | ((with_reducible refine zcu ?_); refine zan rfl ?_) | ((with_reducible refine zdc ?_); refine zbu rfl ?_)) | refine zch ?_)
          exact cut_end ⟨rfl, (), ⟨rfl, rfl, rfl, rfl, rfl, rfl, rfl, rfl, rfl, bool_eq (by simp [h1]), trivial⟩, rfl⟩
      · have d0 : decide ((0 : Int) < (now : Int)) = false := decide_eq_false (by omega)
        repeat' (first | refine zcp (by kernel_rfl) ?_ | (refine zap rfl ?_; first | (refine zbs rfl rfl ?_; rw [d0]) | ((with_reducible refine zct ?_); refine zak rfl ?_) | ((with_reducible refine zcu ?_); refine zan rfl ?_) | ((with_reducible refine zdc ?_); refine zbv rfl ?_)) | refine zch ?_)
        exact cut_end ⟨rfl, (), ⟨rfl, rfl, rfl, rfl, rfl, rfl, rfl, rfl, rfl, bool_eq (by simp [h0]), trivial⟩, rfl⟩
    rintro _ Γ' junk rfl
    repeat (first | refine zck ?_ | refine zcl ?_ | refine zcm ?_ | refine zcn ?_ | refine zco ?_)
    refine run_join (S := Int × Sp) (fun st => [(2, ptr b2), (3, ptr b3), (4, ptr vb), (5, ptr eb), (6, .int .i64 n), (7, .int .i64 (d : Int)), (10, .slice (some ⟨lb, 0, none⟩) l.length cap), (11, .int .i64 now), (12, .int .i64 st.1)])
      (fun st Γ => Γ = [SpaceA p st.2, vV vb g.1, eV eb 0, mV nb mk] ∧ Sm st.2 24 ∧ A.popIn n d t = A.popOn n d now l g.1 st.1 st.2) ?_ ?_
    · by_cases hc : 0 < now ∧ now < d
      · refine zci (bool_eq (decide_eq_true hc)) ?_
        rw [if_pos hc] at hr
        have hN := anode_spec w0 p A hA g.2 (l.getD 0 0) (hsm5.mono (by decide))
        have hsm6 : Sm (A.node g.2 (l.getD 0 0)).2.2 24 := sm_node hsm5
        generalize A.node g.2 (l.getD 0 0) = x at hr hN hsm6
        repeat (first | refine zck ?_ | refine zcl ?_ | refine zcm ?_ | refine zcn ?_)
        first | refine zcp (by kernel_rfl) ?_ | refine zcq PP_mixed (by kernel_rfl) (by kernel_rfl) ?_
        repeat' (refine zap rfl ?_; first | refine zaa 0 rfl rfl (hrd 0 (by omega) _ (by omega)) ?_ | ((with_reducible refine zcu ?_); refine zan rfl ?_) | ((with_reducible refine zcv ?_); refine zan rfl ?_) | ((with_reducible refine zcw ?_); first | refine zaa 1 rfl rfl rfl ?_ | refine zaa 2 rfl rfl rfl ?_) | ((with_reducible refine zcx ?_); refine zah [0] hN rfl rfl rfl sub_nil rfl ?_) | ((with_reducible refine zcz ?_); refine zan rfl ?_) | ((with_reducible refine zdf ?_); refine zas rfl rfl (by omega) ?_))
        all_goals refine zch ?_
        all_goals repeat (first | refine zck ?_ | refine zcl ?_ | refine zcm ?_ | refine zcn ?_)
        repeat (first | refine zck ?_ | refine zcl ?_ | refine zcm ?_ | refine zcn ?_)
        first | refine zcp (by kernel_rfl) ?_ | refine zcq PP_mixed (by kernel_rfl) (by kernel_rfl) ?_
        repeat' (refine zap rfl ?_; first | ((with_reducible refine zcu ?_); refine zan rfl ?_) | ((with_reducible refine zdb ?_); refine zbx rfl ?_))
        all_goals refine zch ?_
        all_goals repeat (first | refine zck ?_ | refine zcl ?_ | refine zcm ?_ | refine zcn ?_)
        refine run_condV rfl (fun hE => ?_) (fun hE => ?_)
        · have hE : x.2.1 = false := by simpa using hE
          rw [hE, if_neg (by decide)] at hr
          repeat' (first | refine zck ?_ | refine zcp (by kernel_rfl) ?_ | (refine zap rfl ?_; first | ((with_reducible refine zdd ?_); first | refine zae 1 rfl rfl rfl rfl rfl rfl rfl ?_ | refine zae 2 rfl rfl rfl rfl rfl rfl rfl ?_)) | refine zch ?_)
          exact run_ret (fin _ _ _ _ rfl rfl hr)
        · have hE : x.2.1 = true := by simpa using hE
          rw [if_pos hE] at hr
          repeat' (first | refine zcp (by kernel_rfl) ?_ | refine zcm ?_ | (refine zap rfl ?_; first | ((with_reducible refine zcu ?_); refine zan rfl ?_) | ((with_reducible refine zcv ?_); refine zan rfl ?_)) | refine zch ?_)
          exact cut_end ⟨rfl, (x.1, x.2.2), ⟨rfl, rfl, rfl, rfl, rfl, rfl, rfl, rfl, rfl, trivial⟩, ⟨rfl, hsm6, hr⟩⟩
      · refine zcj (bool_eq (decide_eq_false hc)) ?_
        rw [if_neg hc, ← htop] at hr
        repeat (first | refine zck ?_ | refine zcl ?_ | refine zcm ?_ | refine zcn ?_ | refine zco ?_)
        exact cut_end ⟨rfl, (top, g.2), ⟨rfl, rfl, rfl, rfl, rfl, rfl, rfl, rfl, rfl, trivial⟩, ⟨rfl, hsm5, hr⟩⟩
    rintro ⟨top, s3⟩ Γ' junk ⟨rfl, hsm6, hr2⟩
    dsimp only at hsm6 hr2 ⊢
    have hr3 : A.popIn n d t = (if (A.gives n d now l 0 0 s3).1 = 0 then (g.1, 0, A.fell n d now top (A.gives n d now l 0 0 s3).2.1 (A.gives n d now l 0 0 s3).2.2) else (0, (A.gives n d now l 0 0 s3).1, (A.gives n d now l 0 0 s3).2.2)) := hr2
    repeat (first | refine zck ?_ | refine zcl ?_ | refine zcm ?_ | refine zcn ?_ | refine zco ?_)
    repeat (first | refine zck ?_ | refine zcl ?_ | refine zcm ?_ | refine zcn ?_)
    first | refine zcp (by kernel_rfl) ?_ | refine zcq PP_mixed (by kernel_rfl) (by kernel_rfl) ?_
    repeat' (refine zap rfl ?_; first | ((with_reducible refine zcv ?_); refine zan rfl ?_))
    all_goals refine zch ?_
    all_goals repeat (first | refine zck ?_ | refine zcl ?_ | refine zcm ?_ | refine zcn ?_)
    repeat (first | refine zck ?_ | refine zcl ?_ | refine zcm ?_ | refine zcn ?_)
    first | refine zcp (by kernel_rfl) ?_ | refine zcq PP_mixed (by kernel_rfl) (by kernel_rfl) ?_
    repeat' (refine zap rfl ?_; first | ((with_reducible refine zcu ?_); refine zan rfl ?_) | ((with_reducible refine zcx ?_); refine zce rfl ?_))
    all_goals refine zch ?_
    all_goals repeat (first | refine zck ?_ | refine zcl ?_ | refine zcm ?_ | refine zcn ?_)
    refine run_loop (S := Nat × Int × Sp) (fun st => [(2, ptr b2), (3, ptr b3), (4, ptr vb), (5, ptr eb), (6, .int .i64 n), (7, .int .i64 (d : Int)), (11, .int .i64 now), (12, .int .i64 top), (15, .int .i64 st.2.1), (84, .slice (some ⟨lb, 0, none⟩) l.length cap), (85, .int .i64 l.length), (86, .int .i64 (st.1 : Int))])
      (fun st Γ => Γ = [SpaceA p st.2.2, vV vb g.1, eV eb 0, mV nb mk] ∧ st.1 ≤ d ∧ Sm st.2.2 (4 + 3 * (d - st.1)) ∧ (0 ≤ st.2.1 ∧ st.2.1 ≤ st.1) ∧ A.gives n d now l 0 0 s3 = A.gives n d now (l.drop st.1) st.1 st.2.1 st.2.2)
      (fun st => d - st.1) (0, 0, s3) ⟨rfl, rfl, rfl, rfl, rfl, rfl, rfl, rfl, rfl, rfl, rfl, rfl, trivial⟩ ⟨rfl, Nat.zero_le _, hsm6.mono (by dsimp only; omega), ⟨Int.le_refl _, Int.le_refl _⟩, rfl⟩ ?_
    rintro ⟨i, gone, s4⟩ Γ' junk ⟨rfl, hid, hsm7, hgb, hgv⟩
    dsimp only at hid hsm7 hgb hgv ⊢
    rw [hgv] at hr3
    by_cases hi : i < d
    rotate_left
    · have hid2 : i = d := by omega
      subst hid2
      rw [show l.drop i = [] from by rw [List.drop_eq_nil_iff]; omega] at hr3
      have hg0 : A.gives n i now [] i gone s4 = (0, gone, s4) := rfl
      rw [hg0] at hr3
      dsimp only at hr3
      rw [if_pos rfl] at hr3
      repeat (first | refine zck ?_ | refine zcl ?_ | refine zcm ?_ | refine zcn ?_)
      first | refine zcp (by kernel_rfl) ?_ | refine zcq PP_mixed (by kernel_rfl) (by kernel_rfl) ?_
      repeat' (refine zap rfl ?_; first | ((with_reducible refine zda ?_); refine zbq rfl rfl ?_))
      all_goals refine zch ?_
      all_goals repeat (first | refine zck ?_ | refine zcl ?_ | refine zcm ?_ | refine zcn ?_)
      refine zcj (bool_eq (decide_eq_false (by omega))) ?_
      repeat (first | refine zck ?_ | refine zcl ?_ | refine zcm ?_ | refine zcn ?_ | refine zco ?_)
      refine cut_exit rfl rfl ?_
      have hsm8 : Sm s4 4 := hsm7.mono (by omega)
      unfold Ar.fell at hr3
      dsimp only at hr3
      repeat (first | refine zck ?_ | refine zcl ?_ | refine zcm ?_ | refine zcn ?_ | refine zco ?_)
      repeat (first | refine zck ?_ | refine zcl ?_ | refine zcm ?_ | refine zcn ?_)
      first | refine zcp (by kernel_rfl) ?_ | refine zcq PP_mixed (by kernel_rfl) (by kernel_rfl) ?_
      repeat' (refine zap rfl ?_; first | ((with_reducible refine zcu ?_); refine zan rfl ?_) | ((with_reducible refine zda ?_); refine zbs rfl rfl ?_))
      all_goals refine zch ?_
      all_goals repeat (first | refine zck ?_ | refine zcl ?_ | refine zcm ?_ | refine zcn ?_)
      refine run_join (S := Sp) (fun _ => [(2, ptr b2), (3, ptr b3), (4, ptr vb), (5, ptr eb), (6, .int .i64 n), (7, .int .i64 (i : Int)), (11, .int .i64 now), (12, .int .i64 top)])
        (fun st Γ => Γ = [SpaceA p st, vV vb g.1, eV eb 0, mV nb mk] ∧ Sm st 3 ∧ (if 0 < gone then (s4.get (A.root + 7)).2.put (A.root + 7) (w64 ((s4.get (A.root + 7)).1 - gone)) else s4) = st) ?_ ?_
      · by_cases hz : 0 < gone
        · refine zci (bool_eq (decide_eq_true hz)) ?_
          have hsm := hsm8
          repeat' (first | refine zcq PP_mixed (by kernel_rfl) (by kernel_rfl) ?_ | (refine zap rfl ?_; first | refine reg_sub (t := 2) rfl rfl ?_ | ((with_reducible refine zcu ?_); refine zan rfl ?_) | ((with_reducible refine zcw ?_); first | refine zaa 1 rfl rfl rfl ?_ | refine zaa 2 rfl rfl rfl ?_) | ((with_reducible refine zcx ?_); first | refine zah [0] (getS w0 p _ _ (by first | exact hsm.mono (by decide) | (repeat (first | refine sm_get ?_ | refine sm_put ?_ | refine sm_node ?_ | refine sm_take ?_ | refine sm_many ?_ | refine sm_way ?_ | refine sm_poolTake ?_ | refine sm_give ?_ | refine sm_place ?_)); exact hsm.mono (by decide))) rfl rfl rfl sub_nil rfl ?_ | refine zah [0] (putS w0 p _ _ _ (by first | exact hsm.mono (by decide) | (repeat (first | refine sm_get ?_ | refine sm_put ?_ | refine sm_node ?_ | refine sm_take ?_ | refine sm_many ?_ | refine sm_way ?_ | refine sm_poolTake ?_ | refine sm_give ?_ | refine sm_place ?_)); exact hsm.mono (by decide))) rfl rfl rfl sub_nil rfl ?_) | ((with_reducible refine zcy ?_); refine zao rfl ?_) | ((with_reducible refine zda ?_); refine zau rfl rfl (by omega) ?_)) | refine zch ?_)
          exact cut_end ⟨rfl, _, ⟨rfl, rfl, rfl, rfl, rfl, rfl, rfl, rfl, trivial⟩, ⟨rfl, sm_put (sm_get hsm8), by rw [if_pos hz]; rfl⟩⟩
        · refine zcj (bool_eq (decide_eq_false hz)) ?_
          repeat (first | refine zck ?_ | refine zcl ?_ | refine zcm ?_ | refine zcn ?_ | refine zco ?_)
          exact cut_end ⟨rfl, _, ⟨rfl, rfl, rfl, rfl, rfl, rfl, rfl, rfl, trivial⟩, ⟨rfl, hsm8.mono (by decide), by rw [if_neg hz]⟩⟩
      rintro s5 Γ' junk ⟨rfl, hsm9, he5⟩
      rw [he5] at hr3
      repeat (first | refine zck ?_ | refine zcl ?_ | refine zcm ?_ | refine zcn ?_ | refine zco ?_)
      repeat (first | refine zck ?_ | refine zcl ?_ | refine zcm ?_ | refine zcn ?_)
      first | refine zcp (by kernel_rfl) ?_ | refine zcq PP_mixed (by kernel_rfl) (by kernel_rfl) ?_
      repeat' (refine zap rfl ?_; first | ((with_reducible refine zcu ?_); refine zan rfl ?_) | ((with_reducible refine zda ?_); refine zbq rfl rfl ?_))
      all_goals refine zch ?_
      all_goals repeat (first | refine zck ?_ | refine zcl ?_ | refine zcm ?_ | refine zcn ?_)
      refine run_join (S := Sp) (fun _ => [(2, ptr b2), (3, ptr b3), (4, ptr vb), (5, ptr eb), (6, .int .i64 n)])
        (fun st Γ => Γ = [SpaceA p st, vV vb g.1, eV eb 0, mV nb mk] ∧ Sm st 1 ∧ (if now < i then (s5.put A.root top).put (A.root + 2) now else s5) = st) ?_ ?_
      · by_cases hz : now < i
        · refine zci (bool_eq (decide_eq_true (by omega))) ?_
          have hsm := hsm9
          repeat' (first | refine zck ?_ | refine zcp (by kernel_rfl) ?_ | (refine zap rfl ?_; first | (refine zau rfl rfl (by omega) ?_; rw [Int.add_zero]) | ((with_reducible refine zcu ?_); refine zan rfl ?_) | ((with_reducible refine zcw ?_); first | refine zaa 1 rfl rfl rfl ?_ | refine zaa 2 rfl rfl rfl ?_) | ((with_reducible refine zcx ?_); refine zah [0] (putS w0 p _ _ _ (by first | exact hsm.mono (by decide) | (repeat (first | refine sm_get ?_ | refine sm_put ?_ | refine sm_node ?_ | refine sm_take ?_ | refine sm_many ?_ | refine sm_way ?_ | refine sm_poolTake ?_ | refine sm_give ?_ | refine sm_place ?_)); exact hsm.mono (by decide))) rfl rfl rfl sub_nil rfl ?_) | ((with_reducible refine zcy ?_); refine zao rfl ?_) | ((with_reducible refine zda ?_); refine zau rfl rfl (by omega) ?_)) | refine zch ?_)
          exact cut_end ⟨rfl, _, ⟨rfl, rfl, rfl, rfl, rfl, trivial⟩, ⟨rfl, sm_put (sm_put hsm9), by rw [if_pos hz]⟩⟩
        · refine zcj (bool_eq (decide_eq_false (by omega))) ?_
          repeat (first | refine zck ?_ | refine zcl ?_ | refine zcm ?_ | refine zcn ?_ | refine zco ?_)
          exact cut_end ⟨rfl, _, ⟨rfl, rfl, rfl, rfl, rfl, trivial⟩, ⟨rfl, hsm9.mono (by decide), by rw [if_neg hz]⟩⟩
      rintro s6 Γ' junk ⟨rfl, hsm10, he6⟩
      rw [he6] at hr3
      have hsm := hsm10
      repeat' (first | refine zck ?_ | refine zcp (by kernel_rfl) ?_ | (refine zap rfl ?_; first | ((with_reducible refine zcu ?_); refine zan rfl ?_) | ((with_reducible refine zcw ?_); first | refine zaa 1 rfl rfl rfl ?_ | refine zaa 2 rfl rfl rfl ?_ | refine zab 1 rfl rfl rfl ?_) | ((with_reducible refine zcx ?_); refine zah [0] (putS w0 p _ _ _ (by first | exact hsm.mono (by decide) | (repeat (first | refine sm_get ?_ | refine sm_put ?_ | refine sm_node ?_ | refine sm_take ?_ | refine sm_many ?_ | refine sm_way ?_ | refine sm_poolTake ?_ | refine sm_give ?_ | refine sm_place ?_)); exact hsm.mono (by decide))) rfl rfl rfl sub_nil rfl ?_) | ((with_reducible refine zcy ?_); refine zao rfl ?_) | ((with_reducible refine zda ?_); first | refine zau rfl rfl (by omega) ?_ | refine zav rfl rfl (by omega) ?_) | ((with_reducible refine zdd ?_); first | refine zae 1 rfl rfl rfl rfl rfl rfl rfl ?_ | refine zae 2 rfl rfl rfl rfl rfl rfl rfl ?_)) | refine zch ?_)
      exact run_ret (fin _ _ _ _ rfl rfl hr3)
    · obtain ⟨hli, hlb1, hlb2⟩ := hgD i hi
      have hdrop : l.drop i = l.getD i 0 :: l.drop (i + 1) := by
        rw [List.drop_eq_getElem_cons (by omega)]
        congr 1
        have := hli; rw [List.getElem?_eq_getElem (by omega)] at this; exact Option.some.inj this
      rw [hdrop] at hr3 hgv
      have hgu : A.gives n d now (l.getD i 0 :: l.drop (i + 1)) i gone s4 = A.gives n d now (l.getD i 0 :: l.drop (i + 1)) i gone s4 := rfl
      conv at hgu => rhs; unfold Ar.gives
      rw [hgu] at hr3 hgv
      have hsm8 : Sm s4 (4 + 3 * (d - (i + 1)) + 3) := hsm7.mono (by omega)
      have hp := pw_pos (d - i)
      repeat (first | refine zck ?_ | refine zcl ?_ | refine zcm ?_ | refine zcn ?_)
      first | refine zcp (by kernel_rfl) ?_ | refine zcq PP_mixed (by kernel_rfl) (by kernel_rfl) ?_
      repeat' (refine zap rfl ?_; first | ((with_reducible refine zda ?_); refine zbq rfl rfl ?_))
      all_goals refine zch ?_
      all_goals repeat (first | refine zck ?_ | refine zcl ?_ | refine zcm ?_ | refine zcn ?_)
      refine zci (bool_eq (decide_eq_true (by omega))) ?_
      repeat (first | refine zck ?_ | refine zcl ?_ | refine zcm ?_ | refine zcn ?_ | refine zco ?_)
      repeat (first | refine zck ?_ | refine zcl ?_ | refine zcm ?_ | refine zcn ?_)
      first | refine zcp (by kernel_rfl) ?_ | refine zcq PP_mixed (by kernel_rfl) (by kernel_rfl) ?_
      repeat' (refine zap rfl ?_; first | refine zaa 0 rfl rfl (hrd i hi _ (by omega)) ?_ | ((with_reducible refine zcu ?_); refine zan rfl ?_) | ((with_reducible refine zcv ?_); refine zan rfl ?_) | ((with_reducible refine zdf ?_); refine zas rfl rfl (by omega) ?_))
      all_goals refine zch ?_
      all_goals repeat (first | refine zck ?_ | refine zcl ?_ | refine zcm ?_ | refine zcn ?_)
      refine run_join (S := Unit) (fun _ => [(2, ptr b2), (3, ptr b3), (4, ptr vb), (5, ptr eb), (6, .int .i64 n), (7, .int .i64 (d : Int)), (11, .int .i64 now), (12, .int .i64 top), (15, .int .i64 gone), (84, .slice (some ⟨lb, 0, none⟩) l.length cap), (85, .int .i64 l.length), (86, .int .i64 (i : Int)), (17, .int .i64 (l.getD i 0)), (108, .bool (decide ((n - 1) % pw (d - i) ≠ 0 ∧ (0 < i ∨ now = d))))])
        (fun _ Γ => Γ = [SpaceA p s4, vV vb g.1, eV eb 0, mV nb mk]) ?_ ?_
      · by_cases hc1 : (n - 1) % pw (d - i) ≠ 0
        · have d1 : decide ((n - 1) % pw (d - i) ≠ 0) = true := decide_eq_true hc1
          by_cases hc2 : 0 < i
          · have d2 : decide ((0 : Int) < (i : Int)) = true := decide_eq_true (by omega)
            repeat' (first | refine zcp (by kernel_rfl) ?_ | (refine zap rfl ?_; first | refine zac rfl hw2 (powL_rd (d - i) (by omega) _ (by omega)) ?_ | (refine zbp rfl rfl ?_; rw [d1]) | (refine zbs rfl rfl ?_; rw [d2]) | ((with_reducible refine zct ?_); first | refine zaj rfl ?_ | refine zak rfl ?_) | ((with_reducible refine zcu ?_); refine zan rfl ?_) | ((with_reducible refine zda ?_); first | refine zav rfl rfl (by omega) ?_ | refine zay rfl rfl (by omega) ?_) | ((with_reducible refine zdc ?_); refine zbu rfl ?_) | ((with_reducible refine zdf ?_); refine zat rfl rfl (by omega) ?_)) | refine zch ?_)
            exact cut_end ⟨rfl, (), ⟨rfl, rfl, rfl, rfl, rfl, rfl, rfl, rfl, rfl, rfl, rfl, rfl, rfl, bool_eq (by simp [hc1, hc2]), trivial⟩, rfl⟩
          · have d2 : decide ((0 : Int) < (i : Int)) = false := decide_eq_false (by omega)
            by_cases hc3 : now = d
            · have d3 : decide ((now : Int) = (d : Int)) = true := decide_eq_true (by omega)
              repeat' (first | refine zcp (by kernel_rfl) ?_ | (refine zap rfl ?_; first | refine zac rfl hw2 (powL_rd (d - i) (by omega) _ (by omega)) ?_ | (refine zbp rfl rfl ?_; rw [d1]) | (refine zbs rfl rfl ?_; rw [d2]) | (refine zbo rfl rfl ?_; rw [d3]) | ((with_reducible refine zct ?_); refine zaj rfl ?_) | ((with_reducible refine zcu ?_); refine zan rfl ?_) | ((with_reducible refine zda ?_); first | refine zav rfl rfl (by omega) ?_ | refine zay rfl rfl (by omega) ?_) | ((with_reducible refine zdc ?_); first | refine zbu rfl ?_ | refine zbv rfl ?_) | ((with_reducible refine zdf ?_); refine zat rfl rfl (by omega) ?_)) | refine zch ?_)
              exact cut_end ⟨rfl, (), ⟨rfl, rfl, rfl, rfl, rfl, rfl, rfl, rfl, rfl, rfl, rfl, rfl, rfl, bool_eq (by simp [hc1, hc3]), trivial⟩, rfl⟩
            · have d3 : decide ((now : Int) = (d : Int)) = false := decide_eq_false (by omega)
              repeat' (first | refine zcp (by kernel_rfl) ?_ | (refine zap rfl ?_; first | refine zac rfl hw2 (powL_rd (d - i) (by omega) _ (by omega)) ?_ | (refine zbp rfl rfl ?_; rw [d1]) | (refine zbs rfl rfl ?_; rw [d2]) | (refine zbo rfl rfl ?_; rw [d3]) | ((with_reducible refine zct ?_); refine zaj rfl ?_) | ((with_reducible refine zcu ?_); refine zan rfl ?_) | ((with_reducible refine zda ?_); first | refine zav rfl rfl (by omega) ?_ | refine zay rfl rfl (by omega) ?_) | ((with_reducible refine zdc ?_); first | refine zbu rfl ?_ | refine zbv rfl ?_) | ((with_reducible refine zdf ?_); refine zat rfl rfl (by omega) ?_)) | refine zch ?_)
              exact cut_end ⟨rfl, (), ⟨rfl, rfl, rfl, rfl, rfl, rfl, rfl, rfl, rfl, rfl, rfl, rfl, rfl, bool_eq (by simp [hc2, hc3]), trivial⟩, rfl⟩
        · have d1 : decide ((n - 1) % pw (d - i) ≠ 0) = false := decide_eq_false hc1
          repeat' (first | refine zcp (by kernel_rfl) ?_ | (refine zap rfl ?_; first | refine zac rfl hw2 (powL_rd (d - i) (by omega) _ (by omega)) ?_ | (refine zbp rfl rfl ?_; rw [d1]) | ((with_reducible refine zct ?_); first | refine zak rfl ?_ | refine zal rfl ?_) | ((with_reducible refine zcu ?_); refine zan rfl ?_) | ((with_reducible refine zda ?_); first | refine zav rfl rfl (by omega) ?_ | refine zay rfl rfl (by omega) ?_) | ((with_reducible refine zdc ?_); refine zbv rfl ?_) | ((with_reducible refine zdf ?_); refine zat rfl rfl (by omega) ?_)) | refine zch ?_)
          exact cut_end ⟨rfl, (), ⟨rfl, rfl, rfl, rfl, rfl, rfl, rfl, rfl, rfl, rfl, rfl, rfl, rfl, bool_eq (by simp [hc1]), trivial⟩, rfl⟩
      rintro _ Γ' junk rfl
      repeat (first | refine zck ?_ | refine zcl ?_ | refine zcm ?_ | refine zcn ?_ | refine zco ?_)
      by_cases hc : (n - 1) % pw (d - i) ≠ 0 ∧ (0 < i ∨ now = d)
      · refine zci (bool_eq (decide_eq_true hc)) ?_
        rw [if_pos hc] at hgv
        repeat' (first | refine zcp (by kernel_rfl) ?_ | refine zcs rfl ?_ | (refine zap rfl ?_; first | ((with_reducible refine zcu ?_); refine zan rfl ?_) | ((with_reducible refine zda ?_); refine zau rfl rfl (by omega) ?_)) | refine zch ?_)
        exact cut_end ⟨rfl, (i + 1, gone, s4), ⟨rfl, rfl, rfl, rfl, rfl, rfl, rfl, rfl, rfl, rfl, rfl, int_eq (by dsimp only; omega), trivial⟩, ⟨rfl, hi, hsm8.mono (by dsimp only; omega), ⟨hgb.1, by dsimp only; omega⟩, hgv⟩, by dsimp only; omega⟩
      · refine zcj (bool_eq (decide_eq_false hc)) ?_
        rw [if_neg hc] at hgv hr3
        have hGv := give_spec w0 p A.pool hA.1 s4 (l.getD i 0) (hsm8.mono (by omega))
        have hsm9 : Sm (A.pool.give s4 (l.getD i 0)).2 (4 + 3 * (d - (i + 1))) := sm_give hsm8
        generalize A.pool.give s4 (l.getD i 0) = y at hgv hr3 hGv hsm9
        repeat (first | refine zck ?_ | refine zcl ?_ | refine zcm ?_ | refine zcn ?_ | refine zco ?_)
        repeat (first | refine zck ?_ | refine zcl ?_ | refine zcm ?_ | refine zcn ?_)
        first | refine zcp (by kernel_rfl) ?_ | refine zcq PP_mixed (by kernel_rfl) (by kernel_rfl) ?_
        repeat' (refine zap rfl ?_; first | ((with_reducible refine zcu ?_); refine zan rfl ?_) | ((with_reducible refine zcv ?_); refine zan rfl ?_) | ((with_reducible refine zcw ?_); first | refine zaa 1 rfl rfl rfl ?_ | refine zaa 2 rfl rfl rfl ?_) | ((with_reducible refine zcx ?_); refine zah [0] hGv rfl rfl rfl sub_nil rfl ?_) | ((with_reducible refine zcy ?_); refine zao rfl ?_))
        all_goals refine zch ?_
        all_goals repeat (first | refine zck ?_ | refine zcl ?_ | refine zcm ?_ | refine zcn ?_)
        repeat (first | refine zck ?_ | refine zcl ?_ | refine zcm ?_ | refine zcn ?_)
        first | refine zcp (by kernel_rfl) ?_ | refine zcq PP_mixed (by kernel_rfl) (by kernel_rfl) ?_
        repeat' (refine zap rfl ?_; first | ((with_reducible refine zcu ?_); refine zan rfl ?_) | ((with_reducible refine zda ?_); refine zbp rfl rfl ?_))
        all_goals refine zch ?_
        all_goals repeat (first | refine zck ?_ | refine zcl ?_ | refine zcm ?_ | refine zcn ?_)
        refine run_cond rfl (fun hE => ?_) (fun hE => ?_)
        · rw [if_neg hE] at hr3
          dsimp only at hr3
          rw [if_neg hE] at hr3
          repeat' (first | refine zck ?_ | refine zcp (by kernel_rfl) ?_ | (refine zap rfl ?_; first | ((with_reducible refine zcu ?_); refine zan rfl ?_) | ((with_reducible refine zdd ?_); first | refine zae 1 rfl rfl rfl rfl rfl rfl rfl ?_ | refine zae 2 rfl rfl rfl rfl rfl rfl rfl ?_)) | refine zch ?_)
          exact run_ret (fin _ _ _ _ rfl rfl hr3)
        · have hE : y.1 = 0 := Decidable.of_not_not hE
          rw [if_pos hE] at hgv
          repeat' (first | refine zcp (by kernel_rfl) ?_ | refine zcm ?_ | refine zcn ?_ | (refine zap rfl ?_; first | ((with_reducible refine zcu ?_); refine zan rfl ?_) | ((with_reducible refine zcv ?_); refine zan rfl ?_) | ((with_reducible refine zda ?_); refine zau rfl rfl (by omega) ?_)) | refine zch ?_)
          exact cut_end ⟨rfl, (i + 1, gone + 1, y.2), ⟨rfl, rfl, rfl, rfl, rfl, rfl, rfl, rfl, rfl, rfl, rfl, int_eq (by dsimp only; omega), trivial⟩, ⟨rfl, hi, hsm9, ⟨by dsimp only; omega, by dsimp only; omega⟩, hgv⟩, by dsimp only; omega⟩
end Go.Proofs.YtilnknokgflkjaaDoor

/- The walk of start. -/
namespace Go.Proofs.YtilnknokgflkjaaDoor
open Go.Vc Sim
set_option maxHeartbeats 4000000
def ar0 (n : Int) : Ar := ⟨⟨3, 24, n⟩, 8⟩
theorem u8_rem (m : Int) (h : 0 ≤ m ∧ m ≤ 255) : m.tmod 24 = m % 24 := by
  rw [Int.tmod_eq_emod_of_nonneg h.1]

theorem start_spec (w0 : World) (m : Int) (hm : 0 ≤ m ∧ m ≤ 255) :
    Vc.Fn PP w0 [] 8 [.int .u8 m] [] (fun v Γ => ∃ vb, v = .tuple #[arrV (ar0 (m % 24)), .agg #[.slice (some ⟨vb, 0, none⟩) (24 + 8 * (m % 24)).toNat (24 + 8 * (m % 24)).toNat]] ∧
      Γ = [pt vb (.cells (List.toArray (List.replicate (24 + 8 * (m % 24)).toNat (.int .i64 0))) 2 (0, 0))]) := by
  refine fn_of_run en8 fn8 rfl rfl rfl ?_
  repeat (first | refine zck ?_ | refine zcl ?_ | refine zcm ?_ | refine zcn ?_)
  first | refine zcp (by kernel_rfl) ?_ | refine zcr [(.quiet, 0), (.quiet, 1), (.quiet, 2), (.quiet, 3), (.quiet, 4), (.quiet, 5), (.loud, 8), (.loud, 6), (.quiet, 7), (.loud, 9)] PP_mixed (by kernel_rfl) (by kernel_rfl) ?_ | refine zcq PP_mixed (by kernel_rfl) (by kernel_rfl) ?_
  repeat' (refine zap rfl ?_; first | ((with_reducible refine zcu ?_); refine zan rfl ?_) | ((with_reducible refine zcw ?_); first | refine zaa 0 rfl rfl rfl ?_ | refine zaa 1 rfl rfl rfl ?_ | refine zaa 2 rfl rfl rfl ?_ | refine zaa 3 rfl rfl rfl ?_ | refine zaa 4 rfl rfl rfl ?_ | refine zaa 5 rfl rfl rfl ?_ | refine zab 0 rfl rfl rfl ?_ | refine zab 1 rfl rfl rfl ?_ | refine zab 2 rfl rfl rfl ?_ | refine zab 3 rfl rfl rfl ?_ | refine zab 4 rfl rfl rfl ?_ | refine zab 5 rfl rfl rfl ?_) | ((with_reducible refine zcy ?_); refine zao rfl ?_) | ((with_reducible refine zda ?_); first | refine zau rfl rfl (by omega) ?_ | refine zaw rfl rfl (by omega) ?_ | refine zay rfl rfl (by omega) ?_) | ((with_reducible refine zdd ?_); first | refine zae 0 rfl rfl rfl rfl rfl rfl rfl ?_ | refine zae 1 rfl rfl rfl rfl rfl rfl rfl ?_ | refine zae 2 rfl rfl rfl rfl rfl rfl rfl ?_ | refine zae 3 rfl rfl rfl rfl rfl rfl rfl ?_ | refine zae 4 rfl rfl rfl rfl rfl rfl rfl ?_ | refine zae 5 rfl rfl rfl rfl rfl rfl rfl ?_) | ((with_reducible refine zdh ?_); refine zar (fun nb => ?_)) | refine zcb rfl ?_ | ((with_reducible refine zdi ?_); first | refine zbz rfl (by omega) ?_ | refine zca rfl ?_))
  all_goals refine zch ?_
  all_goals repeat (first | refine zck ?_ | refine zcl ?_ | refine zcm ?_ | refine zcn ?_)
  rename_i c2
  revert nb; intro c3
  repeat (first | refine zck ?_ | refine zcl ?_ | refine zcm ?_ | refine zcn ?_)
  first | refine zcp (by kernel_rfl) ?_ | refine zcr [(.quiet, 0), (.quiet, 1), (.quiet, 2), (.quiet, 3), (.quiet, 4), (.quiet, 5), (.loud, 8), (.loud, 6), (.quiet, 7), (.loud, 9)] PP_mixed (by kernel_rfl) (by kernel_rfl) ?_ | refine zcq PP_mixed (by kernel_rfl) (by kernel_rfl) ?_
  repeat' (refine zap rfl ?_; first | refine reg_rem rfl rfl (by decide) ?_ | refine zbz rfl (by rw [u8_rem m hm]; omega) ?_ | ((with_reducible refine zcu ?_); refine zan rfl ?_) | ((with_reducible refine zcw ?_); first | refine zaa 0 rfl rfl rfl ?_ | refine zaa 1 rfl rfl rfl ?_ | refine zaa 2 rfl rfl rfl ?_ | refine zaa 3 rfl rfl rfl ?_ | refine zaa 4 rfl rfl rfl ?_ | refine zaa 5 rfl rfl rfl ?_ | refine zab 0 rfl rfl rfl ?_ | refine zab 1 rfl rfl rfl ?_ | refine zab 2 rfl rfl rfl ?_ | refine zab 3 rfl rfl rfl ?_ | refine zab 4 rfl rfl rfl ?_ | refine zab 5 rfl rfl rfl ?_) | ((with_reducible refine zcy ?_); refine zao rfl ?_) | ((with_reducible refine zda ?_); first | refine zau rfl rfl (by omega) ?_ | refine zaw rfl rfl (by omega) ?_ | refine zay rfl rfl (by omega) ?_) | ((with_reducible refine zdd ?_); first | refine zae 0 rfl rfl rfl rfl rfl rfl rfl ?_ | refine zae 1 rfl rfl rfl rfl rfl rfl rfl ?_ | refine zae 2 rfl rfl rfl rfl rfl rfl rfl ?_ | refine zae 3 rfl rfl rfl rfl rfl rfl rfl ?_ | refine zae 4 rfl rfl rfl rfl rfl rfl rfl ?_ | refine zae 5 rfl rfl rfl rfl rfl rfl rfl ?_) | ((with_reducible refine zdh ?_); refine zar (fun nb => ?_)) | refine zcb rfl ?_ | ((with_reducible refine zdi ?_); first | refine zbz rfl (by omega) ?_ | refine zca rfl ?_))
  all_goals refine zch ?_
  all_goals repeat (first | refine zck ?_ | refine zcl ?_ | refine zcm ?_ | refine zcn ?_)
  refine run_share [2] rfl ?_
  rw [u8_rem m hm]
  refine run_slots [(2, ptr c2), (3, ptr c3), (4, ptr nb)] ⟨rfl, rfl, rfl, trivial⟩ (fun junk => ?_)
  revert nb; intro c4
  refine zcr [(.quiet, 0), (.quiet, 1), (.quiet, 2), (.quiet, 3), (.quiet, 4), (.quiet, 5), (.loud, 8), (.loud, 6), (.quiet, 7), (.loud, 9)] PP_mixed (by kernel_rfl) (by kernel_rfl) ?_
  repeat' (refine zap rfl ?_; first | refine reg_makeSlice rfl rfl rfl (by omega) (by decide) (fun nb => ?_) | ((with_reducible refine zcu ?_); refine zan rfl ?_) | ((with_reducible refine zcw ?_); first | refine zaa 0 rfl rfl rfl ?_ | refine zaa 1 rfl rfl rfl ?_ | refine zaa 2 rfl rfl rfl ?_ | refine zaa 3 rfl rfl rfl ?_ | refine zaa 4 rfl rfl rfl ?_ | refine zaa 5 rfl rfl rfl ?_ | refine zab 0 rfl rfl rfl ?_ | refine zab 1 rfl rfl rfl ?_ | refine zab 2 rfl rfl rfl ?_ | refine zab 3 rfl rfl rfl ?_ | refine zab 4 rfl rfl rfl ?_ | refine zab 5 rfl rfl rfl ?_) | ((with_reducible refine zcy ?_); refine zao rfl ?_) | ((with_reducible refine zda ?_); first | refine zau rfl rfl (by omega) ?_ | refine zaw rfl rfl (by omega) ?_ | refine zay rfl rfl (by omega) ?_) | ((with_reducible refine zdd ?_); first | refine zae 0 rfl rfl rfl rfl rfl rfl rfl ?_ | refine zae 1 rfl rfl rfl rfl rfl rfl rfl ?_ | refine zae 2 rfl rfl rfl rfl rfl rfl rfl ?_ | refine zae 3 rfl rfl rfl rfl rfl rfl rfl ?_ | refine zae 4 rfl rfl rfl rfl rfl rfl rfl ?_ | refine zae 5 rfl rfl rfl rfl rfl rfl rfl ?_) | ((with_reducible refine zdh ?_); refine zar (fun nb => ?_)) | refine zcb rfl ?_ | ((with_reducible refine zdi ?_); first | refine zbz rfl (by omega) ?_ | refine zca rfl ?_))
  refine zch ?_
  refine run_ret (leaves_nil (ends_take [2] rfl (ends_two rfl (resOk_pt 0 rfl rfl rfl) (resOk_pt 1 rfl rfl rfl) ⟨rfl, nb, rfl, rfl⟩)))
end Go.Proofs.YtilnknokgflkjaaDoor

/- The plain law of the array: memory, and the pool. -/
namespace Sim
open Go Go.Vc

def upd (m : Int → Int) (a v : Int) : Int → Int := fun x => if x = a then v else m x
theorem upd_same (m : Int → Int) (a v : Int) : upd m a v a = v := by simp [upd]
theorem upd_ne {m : Int → Int} {a v x : Int} (h : x ≠ a) : upd m a v x = m x := by simp [upd, h]

structure View (s0 : Sp) (N : Int) (s : Sp) (m : Int → Int) : Prop where
  live : s.ended = false
  kn : s.kn = s0.kn
  all : ∀ a, 0 ≤ a → a < N → ∃ w, lookW s.kn a = some w
  ext : ∃ l, s.puts = s0.puts ++ l
  val : ∀ a, 0 ≤ a → a < N → (s.value a).1 = m a

theorem lastV_snoc : ∀ (l : List (Int × Int)) (p : Int × Int) (x : Int), lastV (l ++ [p]) x = if p.1 = x then some p.2 else lastV l x
  | [], p, x => by simp [lastV]
  | (a, v) :: l, p, x => by
    simp only [List.cons_append, lastV, lastV_snoc l p x]
    by_cases h : p.1 = x <;> simp [h]

section
variable {s0 s : Sp} {N : Int} {m : Int → Int} {a v : Int}
theorem View.reads (h : View s0 N s m) (h0 : 0 ≤ a) (h1 : a < N) : s.reads a = (true, { s with rd := insI s.rd a }) := by
  obtain ⟨w, hw⟩ := h.all a h0 h1
  simp [Sp.reads, h.live, hw]
theorem View.get (h : View s0 N s m) (h0 : 0 ≤ a) (h1 : a < N) : ∃ s', s.get a = (m a, s') ∧ View s0 N s' m := by
  refine ⟨{ s with rd := insI s.rd a }, ?_, ⟨h.live, h.kn, h.all, h.ext, h.val⟩⟩
  have hv := h.val a h0 h1
  simp only [Sp.get, h.reads h0 h1, if_true]
  congr 1
theorem View.put (h : View s0 N s m) (h0 : 0 ≤ a) (h1 : a < N) (v : Int) : ∃ s', s.put a v = s' ∧ View s0 N s' (upd m a v) := by
  refine ⟨{ s with rd := insI s.rd a, puts := s.puts ++ [(a, v)] }, ?_, ⟨h.live, h.kn, h.all, ?_, fun x hx0 hx1 => ?_⟩⟩
  · simp [Sp.put, h.reads h0 h1]
  · obtain ⟨l, hl⟩ := h.ext
    exact ⟨l ++ [(a, v)], by simp [hl]⟩
  · have hv := h.val x hx0 hx1
    simp only [Sp.value, lastV_snoc] at hv ⊢
    by_cases e : a = x
    · subst e; simp [upd]
    · rw [if_neg e, upd_ne (Ne.symm e)]; exact hv
theorem View.base (h : View s0 N s m) : View s N s m := ⟨h.live, rfl, h.all, ⟨[], by simp⟩, h.val⟩
theorem View.back (h : View s0 N s m) {m0 : Int → Int} (h0 : View s0 N s0 m0) : ∃ s', s.back s0.puts.length = s' ∧ View s' N s' m0 := by
  obtain ⟨l, hl⟩ := h.ext
  have e : s.back s0.puts.length = { s with puts := s0.puts } := by
    have h1 : (s0.puts.length : Int) ≤ s.puts.length := by rw [hl]; simp; omega
    simp only [Sp.back, h.live, hl] at h1 ⊢
    rw [if_pos ⟨trivial, by omega, h1⟩]
    simp
  refine ⟨_, e, ⟨h.live, rfl, h.all, ⟨[], by simp⟩, fun x hx0 hx1 => ?_⟩⟩
  have := h0.val x hx0 hx1
  simp only [Sp.value, h.kn] at this ⊢
  exact this
end

/-! ### The pool -/
def p0 (K : Int) : Pl := ⟨3, 24, K⟩
def isN (K a : Int) : Prop := ∃ k, 0 ≤ k ∧ k < K ∧ a = 24 + 8 * k
theorem w64_id {x : Int} (h0 : -9223372036854775808 ≤ x) (h1 : x ≤ 9223372036854775807) : w64 x = x := wrap64_id h0 h1
theorem node_of {K a : Int} (hK : K ≤ 23) (h : isN K a) : (p0 K).node a = true := by
  obtain ⟨k, h0, h1, rfl⟩ := h
  have e1 : w64 (24 + 8 * k - 24) = 8 * k := by rw [w64_id (by omega) (by omega)]; omega
  have e2 : (8 * k).tdiv 8 = k := by rw [Int.mul_comm, Int.mul_tdiv_cancel _ (by decide)]
  have e3 : (8 * k).tmod 8 = 0 := by rw [Int.mul_comm]; exact Int.mul_tmod_left _ _
  have e4 : w64 k = k := w64_id (by omega) (by omega)
  show (decide ((24 : Int) ≤ 24 + 8 * k) && decide ((w64 (24 + 8 * k - 24)).tmod 8 = 0) && decide (w64 ((w64 (24 + 8 * k - 24)).tdiv 8) < K)) = true
  rw [e1, e2, e3, e4]
  simp [h1]; omega

def chain (m : Int → Int) : Int → List Int → Prop
  | p, [] => m p = 0
  | p, a :: F => m p = a ∧ chain m a F
theorem chain_eq {m m' : Int → Int} : ∀ {p : Int} {F : List Int}, m' p = m p → (∀ a ∈ F, m' a = m a) → chain m p F → chain m' p F
  | p, [], hp, _, h => by simp only [chain] at h ⊢; rw [hp]; exact h
  | p, a :: F, hp, hF, h => by
    simp only [chain] at h ⊢
    exact ⟨by rw [hp]; exact h.1, chain_eq (hF a (by simp)) (fun b hb => hF b (by simp [hb])) h.2⟩

/-- The pool in memory: its used nodes `U`, their number `c`. -/
def PoolM (K : Int) (m : Int → Int) (U : Int → Prop) (c : Int) : Prop :=
  ∃ F h, 0 ≤ h ∧ h ≤ K ∧ m 4 = h ∧ m 5 = (F.length : Int) ∧ chain m 3 F ∧ F.Nodup ∧ (∀ a ∈ F, isN h a) ∧ (∀ b, U b ↔ isN h b ∧ b ∉ F) ∧ c = h - F.length ∧ 0 ≤ c

theorem isN_mono {h K a : Int} (hk : h ≤ K) (ha : isN h a) : isN K a := by obtain ⟨k, h0, h1, h2⟩ := ha; exact ⟨k, h0, by omega, h2⟩
theorem isN_lo {K a : Int} (ha : isN K a) : 24 ≤ a ∧ a ≤ 16 + 8 * K := by obtain ⟨k, h0, h1, rfl⟩ := ha; omega
theorem PoolM.eq {K c : Int} {m m' : Int → Int} {U : Int → Prop} (h : PoolM K m U c) (h3 : m' 3 = m 3) (h4 : m' 4 = m 4) (h5 : m' 5 = m 5) (hF : ∀ a, isN K a → ¬ U a → m' a = m a) : PoolM K m' U c := by
  obtain ⟨F, h, e0, e1, e2, e3, e4, e5, e6, e7, e8, e9⟩ := h
  exact ⟨F, h, e0, e1, h4.trans e2, h5.trans e3, chain_eq h3 (fun a ha => hF a (isN_mono e1 (e6 a ha)) (fun hU => ((e7 a).1 hU).2 ha)) e4, e5, e6, e7, e8, e9⟩
theorem PoolM.node {K c : Int} {m : Int → Int} {U : Int → Prop} (h : PoolM K m U c) {a : Int} (ha : U a) : isN K a := by
  obtain ⟨F, h, e0, e1, e2, e3, e4, e5, e6, e7, e8, e9⟩ := h
  exact isN_mono e1 ((e7 a).1 ha).1

section
variable {s0 s : Sp} {K c : Int} {m : Int → Int} {U : Int → Prop}
theorem take_ok (hK : K ≤ 23) (hv : View s0 (24 + 8 * K) s m) (hp : PoolM K m U c) (hc : c < K) :
    ∃ a s' m', (p0 K).take s = (a, 0, s') ∧ View s0 (24 + 8 * K) s' m' ∧ isN K a ∧ ¬ U a ∧ PoolM K m' (fun b => U b ∨ b = a) (c + 1) ∧ (∀ x, x ≠ 3 → x ≠ 4 → x ≠ 5 → m' x = m x) := by
  obtain ⟨F, h, e0, e1, e2, e3, e4, e5, e6, e7, e8, e9⟩ := hp
  obtain ⟨s1, hs1, hv1⟩ := hv.get (a := 3) (by omega) (by omega)
  cases F with
  | nil =>
    simp only [chain] at e4
    obtain ⟨s2, hs2, hv2⟩ := hv1.get (a := 4) (by omega) (by omega)
    obtain ⟨s3, hs3, hv3⟩ := hv2.put (a := 4) (by omega) (by omega) (h + 1)
    simp only [List.length_nil] at e8 e3
    refine ⟨24 + 8 * h, s3, _, ?_, hv3, ⟨h, e0, by omega, rfl⟩, fun hU => ?_, ?_, fun x h3 h4 h5 => upd_ne h4⟩
    · simp only [Pl.take, p0, hs1, e4, ne_eq, not_true_eq_false, if_false]
      simp only [show (3 : Int) + 1 = 4 from rfl, hs2, e2, hs3]
      rw [if_neg (by omega)]
    · obtain ⟨⟨k, h0, h1, h2⟩, _⟩ := (e7 _).1 hU
      omega
    · refine ⟨[], h + 1, by omega, by omega, upd_same _ _ _, by rw [upd_ne (by decide), e3]; simp, ?_, List.nodup_nil, by simp, fun b => ?_, by simp; omega, by omega⟩
      · simp only [chain]; rw [upd_ne (by decide), e4]
      · show (U b ∨ b = 24 + 8 * h) ↔ _
        rw [e7]
        simp only [List.not_mem_nil, not_false_eq_true, and_true]
        constructor
        · rintro (⟨k, h0, h1, h2⟩ | h0)
          · exact ⟨k, h0, by omega, h2⟩
          · exact ⟨h, e0, by omega, h0⟩
        · rintro ⟨k, h0, h1, h2⟩
          by_cases hk : k = h
          · subst hk; exact .inr h2
          · exact .inl ⟨k, h0, by omega, h2⟩
  | cons a F =>
    obtain ⟨c1, c2⟩ := e4
    have ha := e6 a (by simp)
    have haK := isN_mono e1 ha
    have hal := isN_lo haK
    obtain ⟨s2, hs2, hv2⟩ := hv1.get (a := a) (by omega) (by omega)
    obtain ⟨s3, hs3, hv3⟩ := hv2.put (a := 3) (by omega) (by omega) (m a)
    obtain ⟨s4, hs4, hv4⟩ := hv3.get (a := 5) (by omega) (by omega)
    obtain ⟨s5, hs5, hv5⟩ := hv4.put (a := 5) (by omega) (by omega) (w64 (upd m 3 (m a) 5 + -1))
    have h5 : upd m 3 (m a) 5 = m 5 := upd_ne (by decide)
    have hl : ((a :: F).length : Int) = F.length + 1 := by simp
    refine ⟨a, s5, _, ?_, hv5, haK, fun hU => ((e7 a).1 hU).2 (by simp), ?_, fun x h3 h4 h5 => by rw [upd_ne h5, upd_ne h3]⟩
    · simp only [Pl.take, p0, hs1, c1]
      rw [if_pos (by omega), show (⟨3, 24, K⟩ : Pl) = p0 K from rfl, node_of hK haK]
      simp only [if_true, hs2, hs3, Pl.add, p0, show (3 : Int) + 2 = 5 from rfl, hs4, hs5]
    · have hnd := List.nodup_cons.1 e5
      refine ⟨F, h, e0, e1, ?_, ?_, ?_, hnd.2, fun b hb => e6 b (by simp [hb]), fun b => ?_, by rw [hl] at e8; omega, by omega⟩
      · rw [upd_ne (by decide), upd_ne (by decide), e2]
      · rw [upd_same, h5, e3, hl, w64_id (by omega) (by omega)]; omega
      · have key : ∀ x, x ≠ 3 → x ≠ 5 → upd (upd m 3 (m a)) 5 (w64 (upd m 3 (m a) 5 + -1)) x = m x := fun x h3 h5 => by rw [upd_ne h5, upd_ne h3]
        cases F with
        | nil =>
          simp only [chain] at c2 ⊢
          rw [upd_ne (by decide), upd_same, c2]
        | cons b F =>
          simp only [chain] at c2 ⊢
          refine ⟨by rw [upd_ne (by decide), upd_same, c2.1], chain_eq ?_ (fun x hx => ?_) c2.2⟩
          · have := isN_lo (e6 b (by simp)); exact key b (by omega) (by omega)
          · have := isN_lo (e6 x (by simp [hx])); exact key x (by omega) (by omega)
      · show (U b ∨ b = _) ↔ _
        rw [e7]
        constructor
        · rintro (⟨h1, h2⟩ | rfl)
          · exact ⟨h1, fun h3 => h2 (by simp [h3])⟩
          · exact ⟨ha, hnd.1⟩
        · rintro ⟨h1, h2⟩
          by_cases hb : b = a
          · exact .inr hb
          · exact .inl ⟨h1, by simp [hb, h2]⟩

theorem take_full (_hK : K ≤ 23) (hv : View s0 (24 + 8 * K) s m) (hp : PoolM K m U c) (hc : K ≤ c) : ∃ s', (p0 K).take s = (0, 9, s') ∧ View s0 (24 + 8 * K) s' m := by
  obtain ⟨F, h, e0, e1, e2, e3, e4, e5, e6, e7, e8, e9⟩ := hp
  have hF : F = [] := List.length_eq_zero_iff.1 (by omega)
  subst hF
  simp only [chain] at e4
  obtain ⟨s1, hs1, hv1⟩ := hv.get (a := 3) (by omega) (by omega)
  obtain ⟨s2, hs2, hv2⟩ := hv1.get (a := 4) (by omega) (by omega)
  refine ⟨s2, ?_, hv2⟩
  simp only [List.length_nil] at e8
  simp only [Pl.take, p0, hs1, e4, ne_eq, not_true_eq_false, if_false, show (3 : Int) + 1 = 4 from rfl, hs2, e2]
  rw [if_pos (by omega)]

theorem give_ok (hK : K ≤ 23) (hv : View s0 (24 + 8 * K) s m) (hp : PoolM K m U c) (hc : 1 ≤ c) {a : Int} (ha : U a) :
    ∃ s' m', (p0 K).give s a = (0, s') ∧ View s0 (24 + 8 * K) s' m' ∧ PoolM K m' (fun b => U b ∧ b ≠ a) (c - 1) ∧ (∀ x, x ≠ 3 → x ≠ 5 → x ≠ a → m' x = m x) := by
  obtain ⟨F, h, e0, e1, e2, e3, e4, e5, e6, e7, e8, e9⟩ := hp
  obtain ⟨hN, hnF⟩ := (e7 a).1 ha
  have haK := isN_mono e1 hN
  have hal := isN_lo haK
  obtain ⟨s1, hs1, hv1⟩ := hv.get (a := 3) (by omega) (by omega)
  obtain ⟨s2, hs2, hv2⟩ := hv1.put (a := a) (by omega) (by omega) (m 3)
  obtain ⟨s3, hs3, hv3⟩ := hv2.put (a := 3) (by omega) (by omega) a
  obtain ⟨s4, hs4, hv4⟩ := hv3.get (a := 5) (by omega) (by omega)
  obtain ⟨s5, hs5, hv5⟩ := hv4.put (a := 5) (by omega) (by omega) (w64 (upd (upd m a (m 3)) 3 a 5 + 1))
  have h5 : upd (upd m a (m 3)) 3 a 5 = m 5 := by rw [upd_ne (by decide), upd_ne (by omega)]
  have key : ∀ x, x ≠ 3 → x ≠ 5 → x ≠ a → upd (upd (upd m a (m 3)) 3 a) 5 (w64 (upd (upd m a (m 3)) 3 a 5 + 1)) x = m x := fun x h3 h5 ha => by rw [upd_ne h5, upd_ne h3, upd_ne ha]
  refine ⟨s5, _, ?_, hv5, ⟨a :: F, h, e0, e1, ?_, ?_, ?_, List.nodup_cons.2 ⟨hnF, e5⟩, ?_, fun b => ?_, by simp; omega, by omega⟩, key⟩
  · simp only [Pl.give, Pl.add]
    rw [node_of hK haK]
    simp only [p0, if_true, hs1, hs2, hs3, show (3 : Int) + 2 = 5 from rfl, hs4, hs5]
  · rw [key 4 (by decide) (by decide) (by omega), e2]
  · rw [upd_same, h5, e3, w64_id (by omega) (by omega)]; simp
  · simp only [chain]
    have hka : upd (upd (upd m a (m 3)) 3 a) 5 (w64 (upd (upd m a (m 3)) 3 a 5 + 1)) a = m 3 := by rw [upd_ne (by omega), upd_ne (by omega), upd_same]
    refine ⟨by rw [upd_ne (by decide), upd_same], ?_⟩
    cases F with
    | nil => simp only [chain] at e4 ⊢; rw [hka, e4]
    | cons b F =>
      simp only [chain] at e4 ⊢
      have hb := isN_lo (e6 b (by simp))
      refine ⟨hka.trans e4.1, chain_eq (key b (by omega) (by omega) (fun e => hnF (by simp [e]))) (fun x hx => ?_) e4.2⟩
      have := isN_lo (e6 x (by simp [hx]))
      exact key x (by omega) (by omega) (fun e => hnF (by simp [← e, hx]))
  · intro b hb
    rcases List.mem_cons.1 hb with rfl | hb
    · exact hN
    · exact e6 b hb
  · show (U b ∧ b ≠ a) ↔ _
    rw [e7]
    simp only [List.mem_cons, not_or]
    constructor
    · rintro ⟨⟨h1, h2⟩, h3⟩; exact ⟨h1, h3, h2⟩
    · rintro ⟨h1, h3, h2⟩; exact ⟨⟨h1, h2⟩, h3⟩

theorem left_ok (hK : K ≤ 23) (hv : View s0 (24 + 8 * K) s m) (hp : PoolM K m U c) : ∃ s', (p0 K).left s = (K - c, s') ∧ View s0 (24 + 8 * K) s' m := by
  obtain ⟨F, h, e0, e1, e2, e3, e4, e5, e6, e7, e8, e9⟩ := hp
  obtain ⟨s1, hs1, hv1⟩ := hv.get (a := 5) (by omega) (by omega)
  obtain ⟨s2, hs2, hv2⟩ := hv1.get (a := 4) (by omega) (by omega)
  refine ⟨s2, ?_, hv2⟩
  simp only [Pl.left, p0, show (3 : Int) + 2 = 5 from rfl, show (3 : Int) + 1 = 4 from rfl, hs1, hs2]
  congr 1
  rw [e3, e2, w64_id (x := (F.length : Int) + K) (by omega) (by omega), w64_id (by omega) (by omega)]
  omega
end
end Sim

/- The plain law of the array: the tree, its numbers. -/
namespace Sim
open Go Go.Vc
def depN (n : Nat) : Nat := if n = 0 then 0 else if n ≤ 8 then 1 else if n ≤ 64 then 2 else if n ≤ 512 then 3 else 4
theorem dep_nat (n : Nat) : dep (n : Int) = depN n := by
  unfold dep depN
  (repeat' split) <;> first | rfl | omega
theorem pw_nat : ∀ d, d ≤ 4 → pw d = ((8 ^ d : Nat) : Int)
  | 0, _ => rfl
  | 1, _ => rfl
  | 2, _ => rfl
  | 3, _ => rfl
  | 4, _ => rfl
  | d + 5, h => absurd h (by omega)
/-- The number of nodes, the levels from `d` on counted with element `n`. -/
def C (n : Nat) : Nat → Nat → Nat
  | 0, _ => 0
  | D + 1, d => C n D d + (if d ≤ D + 1 then n / 8 ^ (D + 1) + 1 else (n + 8 ^ (D + 1) - 1) / 8 ^ (D + 1))
def T (n : Nat) : Nat := C n (depN n) (depN n + 1)
set_option maxRecDepth 100000
theorem T_zero : T 0 = 0 := rfl
theorem grown_C : ∀ n, n < 200 → depN n < depN (n + 1) → C n (depN (n + 1)) (depN (n + 1)) = T n + 1 := by decide
theorem grown_d : ∀ n, n < 200 → depN n < depN (n + 1) → depN (n + 1) = depN n + 1 := by decide
theorem same_C : ∀ n, n < 200 → ¬ depN n < depN (n + 1) → C n (depN (n + 1)) (depN (n + 1)) = T n := by decide
theorem same_d : ∀ n, n < 200 → ¬ depN n < depN (n + 1) → depN (n + 1) = depN n := by decide
theorem step_C : ∀ n, n < 200 → ∀ d, d < 4 → 1 ≤ d → d < depN (n + 1) → C n (depN (n + 1)) d = C n (depN (n + 1)) (d + 1) + (if n % 8 ^ d = 0 then 1 else 0) := by decide
theorem last_C : ∀ n, n < 200 → C n (depN (n + 1)) 1 = T (n + 1) := by decide
theorem top_C : ∀ n, n < 200 → n < 8 ^ depN (n + 1) ∧ 1 ≤ depN (n + 1) ∧ depN (n + 1) ≤ 3 := by decide
theorem dep_C : ∀ n, n < 200 → n ≤ 8 ^ depN n ∧ depN n ≤ 3 ∧ (0 < n → 1 ≤ depN n) := by decide
theorem C_ge (n : Nat) : ∀ D d, 1 ≤ D → (n + 7) / 8 ≤ C n D d
  | 0, d, h => absurd h (by omega)
  | 1, d, _ => by
    simp only [C]
    split <;> omega
  | D + 2, d, _ => by
    have := C_ge n (D + 1) d (by omega)
    rw [C]; omega
theorem T_small {n : Nat} (h : T n ≤ 23) : n < 200 := by
  by_cases h0 : depN n = 0
  · unfold depN at h0; (repeat' split at h0) <;> omega
  · have := C_ge n (depN n) (depN n + 1) (by omega)
    unfold T at h; omega
end Sim

/- The plain law of the array: Push. -/
namespace Sim
open Go Go.Vc
def a0 (K : Int) : Ar := ⟨p0 K, 8⟩
section
variable {s0 s : Sp} {K c : Int} {m : Int → Int} {U : Int → Prop}
theorem atake_ok (hK : K ≤ 23) (hv : View s0 (24 + 8 * K) s m) (hp : PoolM K m U c) (hc : c < K) (h15 : m 15 = c) :
    ∃ a s' m', (a0 K).take s = (a, 0, s') ∧ View s0 (24 + 8 * K) s' m' ∧ isN K a ∧ ¬ U a ∧ PoolM K m' (fun b => U b ∨ b = a) (c + 1) ∧ m' 15 = c + 1 ∧ (∀ x, x ≠ 3 → x ≠ 4 → x ≠ 5 → x ≠ 15 → m' x = m x) := by
  have hc0 : 0 ≤ c := by obtain ⟨F, h, e0, e1, e2, e3, e4, e5, e6, e7, e8, e9⟩ := hp; exact e9
  obtain ⟨a, s1, m1, e1, hv1, hn, hU, hp1, hx⟩ := take_ok hK hv hp hc
  obtain ⟨s2, hs2, hv2⟩ := hv1.get (a := 15) (by omega) (by omega)
  obtain ⟨s3, hs3, hv3⟩ := hv2.put (a := 15) (by omega) (by omega) (w64 (m1 15 + 1))
  have h1 : m1 15 = c := by rw [hx 15 (by decide) (by decide) (by decide), h15]
  refine ⟨a, s3, _, ?_, hv3, hn, hU, ?_, ?_, fun x h3 h4 h5 h15 => by rw [upd_ne h15, hx x h3 h4 h5]⟩
  · simp only [Ar.take, a0, e1, if_true, show (8 : Int) + 7 = 15 from rfl, hs2, hs3]
  · exact hp1.eq (upd_ne (by decide)) (upd_ne (by decide)) (upd_ne (by decide)) (fun x hxN _ => upd_ne (by have := isN_lo hxN; omega))
  · rw [upd_same, h1, w64_id (by omega) (by omega)]
theorem atake_full (hK : K ≤ 23) (hv : View s0 (24 + 8 * K) s m) (hp : PoolM K m U c) (hc : K ≤ c) : ∃ s', (a0 K).take s = (0, 9, s') ∧ View s0 (24 + 8 * K) s' m := by
  obtain ⟨s1, e1, hv1⟩ := take_full hK hv hp hc
  exact ⟨s1, by simp [Ar.take, a0, e1], hv1⟩
theorem anode_ok (hK : K ≤ 23) (hv : View s0 (24 + 8 * K) s m) {cell : Int} (h0 : 0 ≤ cell) (h1 : cell < 24 + 8 * K) (hn : isN K (m cell)) : ∃ s', (a0 K).node s cell = (m cell, true, s') ∧ View s0 (24 + 8 * K) s' m := by
  obtain ⟨s1, e1, hv1⟩ := hv.get h0 h1
  have hl := isN_lo hn
  refine ⟨s1, ?_, hv1⟩
  simp only [Ar.node, e1]
  rw [if_neg (by omega)]
  simp [a0, node_of hK hn]
theorem many_ok2 (hK0 : 0 ≤ K) (hv : View s0 (24 + 8 * K) s m) {n : Nat} (hn : n ≤ 4096) (h9 : m 9 = n) (h10 : m 10 = depN n) : ∃ s', (a0 K).many s = ((n : Int), (depN n : Int), true, s') ∧ View s0 (24 + 8 * K) s' m := by
  obtain ⟨s1, e1, hv1⟩ := hv.get (a := 9) (by omega) (by omega)
  obtain ⟨s2, e2, hv2⟩ := hv1.get (a := 10) (by omega) (by omega)
  refine ⟨s2, ?_, hv2⟩
  simp only [Ar.many, a0, show (8 : Int) + 1 = 9 from rfl, show (8 : Int) + 2 = 10 from rfl, e1, e2, h9, h10, dep_nat]
  rw [if_neg (by omega)]
  simp
end

structure Tree (K : Int) (m : Int → Int) (D : Nat) (V : Nat → Nat → Prop) (ad : Nat → Nat → Int) : Prop where
  pos : ∀ d j, V d j → 1 ≤ d ∧ d ≤ D
  isn : ∀ d j, V d j → isN K (ad d j)
  inj : ∀ d j d' j', V d j → V d' j' → ad d j = ad d' j' → d = d' ∧ j = j'
  par : ∀ d j, V d j → d < D → V (d + 1) (j / 8)
  link : ∀ d j, V d j → d < D → m (ad (d + 1) (j / 8) + ((j % 8 : Nat) : Int)) = ad d j

/-- The nodes that element `n` needs from level `d` on, and those of the elements before. -/
def vP (n D d : Nat) (d' j : Nat) : Prop := 1 ≤ d' ∧ d' ≤ D ∧ (j * 8 ^ d' < n ∨ (d ≤ d' ∧ j = n / 8 ^ d'))

structure Mid (K : Int) (m : Int → Int) (l : List Int) (D d : Nat) (ad : Nat → Nat → Int) : Prop where
  tree : Tree K m D (vP l.length D d) ad
  leaf : ∀ i v, l[i]? = some v → m (ad 1 (i / 8) + ((i % 8 : Nat) : Int)) = v
  pool : PoolM K m (fun b => ∃ d' j, vP l.length D d d' j ∧ b = ad d' j) (C l.length D d)
  many : m 9 = l.length
  depth : m 10 = D
  top : m 8 = ad D 0
  nodes : m 15 = C l.length D d

/-- The address of a cell of a node tells the node and the digit. -/
theorem cell_inj {K a b : Int} {i j : Nat} (ha : isN K a) (hb : isN K b) (hi : i < 8) (hj : j < 8) (h : a + (i : Int) = b + (j : Int)) : a = b ∧ i = j := by
  obtain ⟨k, _, _, rfl⟩ := ha
  obtain ⟨q, _, _, rfl⟩ := hb
  omega

theorem vP_mono {n D d d' j : Nat} (h : vP n D (d + 1) d' j) : vP n D d d' j := ⟨h.1, h.2.1, h.2.2.imp id fun h => ⟨by omega, h.2⟩⟩
theorem vP_new {n D d d' j : Nat} (h : vP n D d d' j) : vP n D (d + 1) d' j ∨ (d' = d ∧ j = n / 8 ^ d) := by
  obtain ⟨h1, h2, h3⟩ := h
  rcases h3 with h3 | ⟨h3, h4⟩
  · exact .inl ⟨h1, h2, .inl h3⟩
  · by_cases e : d' = d
    · subst e; exact .inr ⟨rfl, h4⟩
    · exact .inl ⟨h1, h2, .inr ⟨by omega, h4⟩⟩
theorem mul_div_eq {n d : Nat} (h : n % 8 ^ d = 0) : n / 8 ^ d * 8 ^ d = n := Nat.div_mul_cancel (Nat.dvd_of_mod_eq_zero h)
theorem vP_old {n D d : Nat} (h1 : 1 ≤ d) (h2 : d ≤ D) (h : n % 8 ^ d ≠ 0) : vP n D (d + 1) d (n / 8 ^ d) := by
  refine ⟨h1, h2, .inl ?_⟩
  have := Nat.div_add_mod n (8 ^ d)
  rw [Nat.mul_comm] at this
  omega
theorem vP_not {n D d : Nat} (h : n % 8 ^ d = 0) : ¬ vP n D (d + 1) d (n / 8 ^ d) := by
  rintro ⟨_, _, h3 | ⟨h3, _⟩⟩
  · rw [mul_div_eq h] at h3; omega
  · omega
theorem div_step (n d : Nat) : n / 8 ^ d / 8 = n / 8 ^ (d + 1) := by rw [Nat.div_div_eq_div_mul, Nat.pow_succ]
end Sim

/- The plain law of the array: one level of Push. -/
namespace Sim
open Go Go.Vc
section
variable {s0 s : Sp} {K : Int} {m : Int → Int} {l : List Int} {D d : Nat} {ad : Nat → Nat → Int}

theorem Mid.add_old (h : Mid K m l D (d + 1) ad) (h1 : 1 ≤ d) (h2 : d < D) (hz : l.length % 8 ^ d ≠ 0) (hC : C l.length D d = C l.length D (d + 1)) : Mid K m l D d ad := by
  have hV : ∀ d' j, vP l.length D d d' j ↔ vP l.length D (d + 1) d' j := fun d' j => ⟨fun h => by
    rcases vP_new h with h | ⟨rfl, rfl⟩
    · exact h
    · exact vP_old h1 (Nat.le_of_lt h2) hz, vP_mono⟩
  have hV2 : vP l.length D d = vP l.length D (d + 1) := by funext d' j; exact propext (hV d' j)
  obtain ⟨t, lf, p, a, b, c, e⟩ := h
  rw [← hV2] at t p
  rw [← hC] at p e
  exact ⟨t, lf, p, a, b, c, e⟩

theorem Mid.add_new (h : Mid K m l D (d + 1) ad) (h1 : 1 ≤ d) (h2 : d < D) (hz : l.length % 8 ^ d = 0) (_hn : l.length < 8 ^ D) (hC : C l.length D d = C l.length D (d + 1) + 1) {a : Int} {m1 : Int → Int} (haN : isN K a)
    (hU : ¬ ∃ d' j, vP l.length D (d + 1) d' j ∧ a = ad d' j) (hp : PoolM K m1 (fun b => (∃ d' j, vP l.length D (d + 1) d' j ∧ b = ad d' j) ∨ b = a) (C l.length D (d + 1) + 1)) (h15 : m1 15 = C l.length D (d + 1) + 1)
    (hx : ∀ x, x ≠ 3 → x ≠ 4 → x ≠ 5 → x ≠ 15 → m1 x = m x) :
    Mid K (upd m1 (ad (d + 1) (l.length / 8 ^ (d + 1)) + ((l.length / 8 ^ d % 8 : Nat) : Int)) a) l D d (fun d' j => if d' = d ∧ j = l.length / 8 ^ d then a else ad d' j) := by
  obtain ⟨t, lf, p, q9, q10, q8, q15⟩ := h
  have hpar : vP l.length D (d + 1) (d + 1) (l.length / 8 ^ (d + 1)) := ⟨by omega, by omega, .inr ⟨Nat.le_refl _, rfl⟩⟩
  have hpN := t.isn _ _ hpar
  have hpl := isN_lo hpN
  generalize hcell : ad (d + 1) (l.length / 8 ^ (d + 1)) + ((l.length / 8 ^ d % 8 : Nat) : Int) = cell
  have hcl : 24 ≤ cell := by omega
  have hnew : ∀ d' j, vP l.length D (d + 1) d' j → ¬ (d' = d ∧ j = l.length / 8 ^ d) := fun d' j hv e => by
    obtain ⟨rfl, rfl⟩ := e; exact vP_not hz hv
  have had : ∀ d' j, vP l.length D (d + 1) d' j → (if d' = d ∧ j = l.length / 8 ^ d then a else ad d' j) = ad d' j := fun d' j hv => if_neg (hnew d' j hv)
  have hne : ∀ d' j, vP l.length D (d + 1) d' j → a ≠ ad d' j := fun d' j hv e => hU ⟨d', j, hv, e⟩
  -- another cell of the tree is another cell
  have hoc : ∀ d' j' (k : Nat), vP l.length D (d + 1) d' j' → k < 8 → ¬ (d' = d + 1 ∧ j' = l.length / 8 ^ (d + 1) ∧ k = l.length / 8 ^ d % 8) → upd m1 cell a (ad d' j' + (k : Int)) = m (ad d' j' + (k : Int)) := fun d' j' k hv hk hno => by
    have hl := isN_lo (t.isn _ _ hv)
    rw [upd_ne, hx _ (by omega) (by omega) (by omega) (by omega)]
    intro e
    rw [← hcell] at e
    obtain ⟨e1, e2⟩ := cell_inj (t.isn _ _ hv) hpN hk (Nat.mod_lt _ (by decide)) e
    obtain ⟨e3, e4⟩ := t.inj _ _ _ _ hv hpar e1
    exact hno ⟨e3, e4, e2⟩
  refine ⟨⟨fun d' j hv => ⟨hv.1, hv.2.1⟩, ?_, ?_, ?_, ?_⟩, ?_, ?_, ?_, ?_, ?_, ?_⟩
  · intro d' j hv
    rcases vP_new hv with hv | ⟨rfl, rfl⟩
    · rw [had _ _ hv]; exact t.isn _ _ hv
    · rw [if_pos ⟨rfl, rfl⟩]; exact haN
  · intro d1 j1 d2 j2 hv1 hv2 e
    rcases vP_new hv1 with hv1 | ⟨rfl, rfl⟩ <;> rcases vP_new hv2 with hv2 | ⟨e5, e6⟩
    · rw [had _ _ hv1, had _ _ hv2] at e; exact t.inj _ _ _ _ hv1 hv2 e
    · rw [had _ _ hv1, if_pos ⟨e5, e6⟩] at e; exact absurd e.symm (hne _ _ hv1)
    · rw [if_pos ⟨rfl, rfl⟩, had _ _ hv2] at e; exact absurd e (hne _ _ hv2)
    · exact ⟨e5.symm, e6.symm⟩
  · intro d' j hv hd
    rcases vP_new hv with hv | ⟨rfl, rfl⟩
    · exact vP_mono (t.par _ _ hv hd)
    · rw [div_step]; exact vP_mono hpar
  · intro d' j hv hd
    rcases vP_new hv with hv | ⟨rfl, rfl⟩
    · have hv2 := t.par _ _ hv hd
      rw [had _ _ hv, had _ _ hv2, hoc _ _ _ hv2 (Nat.mod_lt _ (by decide)), t.link _ _ hv hd]
      rintro ⟨e1, e2, e3⟩
      have e4 : d' = d := by omega
      subst e4
      refine hnew _ _ hv ⟨rfl, ?_⟩
      have e5 := div_step l.length d'
      omega
    · rw [if_neg (by omega), if_pos ⟨rfl, rfl⟩, div_step, hcell, upd_same]
  · intro i v hi
    have hil := (List.getElem?_eq_some_iff.1 hi).1
    have hv : vP l.length D (d + 1) 1 (i / 8) := ⟨Nat.le_refl _, by omega, .inl (by omega)⟩
    rw [had _ _ hv, hoc _ _ _ hv (Nat.mod_lt _ (by decide)) (by omega), lf i v hi]
  · rw [hC]
    have hp2 : PoolM K (upd m1 cell a) (fun b => (∃ d' j, vP l.length D (d + 1) d' j ∧ b = ad d' j) ∨ b = a) ((C l.length D (d + 1) + 1 : Nat) : Int) := by
      have := hp.eq (m' := upd m1 cell a) (upd_ne (by omega)) (upd_ne (by omega)) (upd_ne (by omega)) (fun x hxN hxU => upd_ne (fun e => ?_))
      · simpa using this
      · rw [← hcell] at e
        have e' : x + ((0 : Nat) : Int) = ad (d + 1) (l.length / 8 ^ (d + 1)) + ((l.length / 8 ^ d % 8 : Nat) : Int) := by simpa using e
        obtain ⟨e1, _⟩ := cell_inj hxN hpN (by decide) (Nat.mod_lt _ (by decide)) e'
        exact hxU (.inl ⟨_, _, hpar, e1⟩)
    have hUU : (fun b => ∃ d' j, vP l.length D d d' j ∧ b = if d' = d ∧ j = l.length / 8 ^ d then a else ad d' j) = (fun b => (∃ d' j, vP l.length D (d + 1) d' j ∧ b = ad d' j) ∨ b = a) := by
      funext b
      refine propext ⟨?_, ?_⟩
      · rintro ⟨d', j, hv, rfl⟩
        rcases vP_new hv with hv | ⟨rfl, rfl⟩
        · exact .inl ⟨d', j, hv, had _ _ hv⟩
        · exact .inr (if_pos ⟨rfl, rfl⟩)
      · rintro (⟨d', j, hv, rfl⟩ | rfl)
        · exact ⟨d', j, vP_mono hv, (had _ _ hv).symm⟩
        · exact ⟨d, l.length / 8 ^ d, ⟨h1, by omega, .inr ⟨Nat.le_refl _, rfl⟩⟩, (if_pos ⟨rfl, rfl⟩).symm⟩
    rw [hUU]; exact hp2
  · rw [upd_ne (by omega), hx 9 (by decide) (by decide) (by decide) (by decide), q9]
  · rw [upd_ne (by omega), hx 10 (by decide) (by decide) (by decide) (by decide), q10]
  · rw [upd_ne (by omega), hx 8 (by decide) (by decide) (by decide) (by decide), q8]
    rw [if_neg (by omega)]
  · rw [upd_ne (by omega), h15, hC]; rfl
end
end Sim

/- The plain law of the array: down. -/
namespace Sim
open Go Go.Vc
section
variable {s0 s : Sp} {K : Int} {m : Int → Int} {l : List Int} {ad : Nat → Nat → Int}
theorem dig_nat (n d : Nat) (hd : d ≤ 4) : dig (n : Int) (d + 1) = ((n / 8 ^ d % 8 : Nat) : Int) := by
  unfold dig
  rw [Nat.add_sub_cancel, pw_nat d hd]
  omega

theorem T_le_C (n : Nat) (hn : n < 200) : ∀ d, d < 4 → 1 ≤ d → d ≤ depN (n + 1) → C n (depN (n + 1)) d ≤ T (n + 1) := by
  intro d
  induction d with
  | zero => intro _ h _; omega
  | succ d ih =>
    intro h1 h2 h3
    by_cases hd : d = 0
    · subst hd; rw [last_C n hn]; exact Nat.le_refl _
    · have := step_C n hn d (by omega) (by omega) (by omega)
      have := ih (by omega) (by omega) (by omega)
      split at * <;> omega

theorem down_ok (hK0 : 0 ≤ K) (hK : K ≤ 23) (hn : l.length < 200) : ∀ (d : Nat) (ad : Nat → Nat → Int) (m : Int → Int) (s : Sp), d + 1 ≤ depN (l.length + 1) → View s0 (24 + 8 * K) s m → Mid K m l (depN (l.length + 1)) (d + 1) ad →
    (∃ s' m' ad', (a0 K).down (l.length : Int) (d + 1) (ad (d + 1) (l.length / 8 ^ (d + 1))) s = (0, ad' 1 (l.length / 8), s') ∧ View s0 (24 + 8 * K) s' m' ∧ Mid K m' l (depN (l.length + 1)) 1 ad' ∧ (T (l.length + 1) : Int) ≤ K) ∨
    (∃ s' m', (a0 K).down (l.length : Int) (d + 1) (ad (d + 1) (l.length / 8 ^ (d + 1))) s = (9, 0, s') ∧ View s0 (24 + 8 * K) s' m' ∧ K < (T (l.length + 1) : Int))
  | 0, ad, m, s, hd, hv, hM => by
    left
    refine ⟨s, m, ad, by simp [Ar.down], hv, hM, ?_⟩
    have h1 := last_C _ hn
    obtain ⟨F, h, e0, e1, e2, e3, e4, e5, e6, e7, e8, e9⟩ := hM.pool
    rw [h1] at e8; omega
  | d + 1, ad, m, s, hd, hv, hM => by
    obtain ⟨t1, t2, t3⟩ := top_C _ hn
    have hpar : vP l.length (depN (l.length + 1)) (d + 1 + 1) (d + 1 + 1) (l.length / 8 ^ (d + 1 + 1)) := ⟨by omega, by omega, .inr ⟨Nat.le_refl _, rfl⟩⟩
    have hpN := hM.tree.isn _ _ hpar
    have hpl := isN_lo hpN
    have hdg := dig_nat l.length (d + 1) (by omega)
    have hst := step_C l.length hn (d + 1) (by omega) (by omega) (by omega)
    have hmod : l.length / 8 ^ (d + 1) % 8 < 8 := Nat.mod_lt _ (by decide)
    have hpw : pw (d + 1 + 1 - 1) = ((8 ^ (d + 1) : Nat) : Int) := by rw [Nat.add_sub_cancel]; exact pw_nat _ (by omega)
    have hunf : (a0 K).down (l.length : Int) (d + 1 + 1) (ad (d + 1 + 1) (l.length / 8 ^ (d + 1 + 1))) s = (a0 K).down (l.length : Int) (d + 1 + 1) (ad (d + 1 + 1) (l.length / 8 ^ (d + 1 + 1))) s := rfl
    conv at hunf => rhs; unfold Ar.down
    rw [if_neg (by omega)] at hunf
    rw [hunf, hdg]
    dsimp only
    unfold Ar.add
    rw [hpw]
    by_cases hz : l.length % 8 ^ (d + 1) = 0
    · rw [if_pos hz] at hst
      rw [if_pos (show (l.length : Int) % ((8 ^ (d + 1) : Nat) : Int) = 0 by omega)]
      by_cases hc : (C l.length (depN (l.length + 1)) (d + 1 + 1) : Int) < K
      · obtain ⟨a, s1, m1, e1, hv1, hn1, hU, hp1, h15, hx⟩ := atake_ok hK hv hM.pool hc hM.nodes
        simp only [e1, if_true]
        obtain ⟨s2, e2, hv2⟩ := hv1.put (a := ad (d + 1 + 1) (l.length / 8 ^ (d + 1 + 1)) + ((l.length / 8 ^ (d + 1) % 8 : Nat) : Int)) (by omega) (by omega) a
        have hM2 := hM.add_new (by omega) (by omega) hz t1 hst hn1 hU hp1 h15 hx
        rw [e2]
        obtain ⟨s3, e3, hv3⟩ := anode_ok hK hv2 (cell := ad (d + 1 + 1) (l.length / 8 ^ (d + 1 + 1)) + ((l.length / 8 ^ (d + 1) % 8 : Nat) : Int)) (by omega) (by omega) (by rw [upd_same]; exact hn1)
        rw [upd_same] at e3
        rw [e3]
        simp only [if_true]
        have := down_ok hK0 hK hn d _ _ s3 (by omega) hv3 hM2
        rw [if_pos ⟨rfl, rfl⟩] at this
        exact this
      · right
        obtain ⟨s1, e1, hv1⟩ := atake_full hK hv hM.pool (by omega)
        refine ⟨s1, m, ?_, hv1, ?_⟩
        · simp [e1]
        · have := T_le_C l.length hn (d + 1) (by omega) (by omega) (by omega)
          omega
    · rw [if_neg hz] at hst
      rw [if_neg (show ¬ (l.length : Int) % ((8 ^ (d + 1) : Nat) : Int) = 0 by omega)]
      have hM2 := hM.add_old (by omega) (by omega) hz hst
      have hlk := hM.tree.link (d + 1) (l.length / 8 ^ (d + 1)) (vP_old (by omega) (by omega) hz) (by omega)
      rw [div_step] at hlk
      have hno := hM.tree.isn _ _ (vP_old (d := d + 1) (n := l.length) (D := depN (l.length + 1)) (by omega) (by omega) hz)
      obtain ⟨s3, e3, hv3⟩ := anode_ok hK hv (cell := ad (d + 1 + 1) (l.length / 8 ^ (d + 1 + 1)) + ((l.length / 8 ^ (d + 1) % 8 : Nat) : Int)) (by omega) (by omega) (by rw [hlk]; exact hno)
      rw [hlk] at e3
      simp only [if_true]
      rw [e3]
      simp only [if_true]
      exact down_ok hK0 hK hn d _ _ s3 (by omega) hv3 hM2
end
end Sim

/- The plain law of the array: Push. -/
namespace Sim
open Go Go.Vc
def vF (n : Nat) (d j : Nat) : Prop := 1 ≤ d ∧ d ≤ depN n ∧ j * 8 ^ d < n
structure Full (K : Int) (m : Int → Int) (l : List Int) (ad : Nat → Nat → Int) : Prop where
  tree : Tree K m (depN l.length) (vF l.length) ad
  leaf : ∀ i v, l[i]? = some v → m (ad 1 (i / 8) + ((i % 8 : Nat) : Int)) = v
  pool : PoolM K m (fun b => ∃ d j, vF l.length d j ∧ b = ad d j) (T l.length)
  many : m 9 = l.length
  depth : m 10 = depN l.length
  top : 0 < l.length → m 8 = ad (depN l.length) 0
  nodes : m 15 = T l.length
section
variable {s0 s : Sp} {K : Int} {m : Int → Int} {l : List Int} {ad : Nat → Nat → Int}
theorem Full.small (h : Full K m l ad) (hK : K ≤ 23) : (T l.length : Int) ≤ K ∧ l.length < 200 := by
  obtain ⟨F, hh, e0, e1, e2, e3, e4, e5, e6, e7, e8, e9⟩ := h.pool
  have : (T l.length : Int) ≤ K := by omega
  exact ⟨this, T_small (by omega)⟩

theorem vP_same {n : Nat} (hn : n < 200) (hg : ¬ depN n < depN (n + 1)) : vP n (depN (n + 1)) (depN (n + 1)) = vF n := by
  obtain ⟨t1, t2, t3⟩ := top_C n hn
  have hd := same_d n hn hg
  have h0 : 0 < n := by
    rcases Nat.eq_zero_or_pos n with rfl | h
    · exact absurd (by decide) hg
    · exact h
  funext d j
  refine propext ⟨?_, ?_⟩
  · rintro ⟨h1, h2, h3 | ⟨h3, h4⟩⟩
    · exact ⟨h1, by omega, h3⟩
    · have e : d = depN (n + 1) := by omega
      subst e
      rw [Nat.div_eq_of_lt t1] at h4
      subst h4
      exact ⟨h1, by omega, by omega⟩
  · rintro ⟨h1, h2, h3⟩
    exact ⟨h1, by omega, .inl h3⟩

theorem Full.mid (h : Full K m l ad) (hn : l.length < 200) (hg : ¬ depN l.length < depN (l.length + 1)) : Mid K m l (depN (l.length + 1)) (depN (l.length + 1)) ad := by
  have hd := same_d _ hn hg
  have hC := same_C _ hn hg
  have hV := vP_same hn hg
  obtain ⟨t, lf, p, q9, q10, q8, q15⟩ := h
  have h0 : 0 < l.length := by
    rcases Nat.eq_zero_or_pos l.length with h | h
    · rw [h] at hg; exact absurd (by decide) hg
    · exact h
  refine ⟨?_, lf, ?_, q9, ?_, ?_, ?_⟩
  · rw [hV, hd]; exact t
  · rw [hV, hC]; exact p
  · rw [hd]; exact q10
  · rw [hd]; exact q8 h0
  · rw [hC]; exact q15

theorem Full.grown (h : Full K m l ad) (hn : l.length < 200) (hg : depN l.length < depN (l.length + 1)) {a : Int} {m1 m2 : Int → Int} (haN : isN K a) (hU : ¬ ∃ d j, vF l.length d j ∧ a = ad d j)
    (hp : PoolM K m1 (fun b => (∃ d j, vF l.length d j ∧ b = ad d j) ∨ b = a) (T l.length + 1)) (h15 : m1 15 = T l.length + 1) (hx : ∀ x, x ≠ 3 → x ≠ 4 → x ≠ 5 → x ≠ 15 → m1 x = m x)
    (h2 : m2 = if 0 < depN l.length then upd m1 a (m 8) else m1) :
    Mid K (upd (upd m2 8 a) 10 (depN (l.length + 1))) l (depN (l.length + 1)) (depN (l.length + 1)) (fun d j => if d = depN (l.length + 1) then a else ad d j) := by
  obtain ⟨t1, t2, t3⟩ := top_C _ hn
  obtain ⟨u1, u2, u3⟩ := dep_C _ hn
  have hd := grown_d _ hn hg
  have hC := grown_C _ hn hg
  obtain ⟨t, lf, p, q9, q10, q8, q15⟩ := h
  have hal := isN_lo haN
  have hne : ∀ d j, vF l.length d j → a ≠ ad d j := fun d j hv e => hU ⟨d, j, hv, e⟩
  have hm2 : ∀ x, x ≠ a → m2 x = m1 x := fun x hxa => by
    rw [h2]; split
    · exact upd_ne hxa
    · rfl
  have hm3 : ∀ x, x ≠ 8 → x ≠ 10 → x ≠ a → upd (upd m2 8 a) 10 (depN (l.length + 1)) x = m1 x := fun x h8 h10 hxa => by rw [upd_ne h10, upd_ne h8, hm2 x hxa]
  have hoc : ∀ d j (k : Nat), vF l.length d j → k < 8 → upd (upd m2 8 a) 10 (depN (l.length + 1)) (ad d j + (k : Int)) = m (ad d j + (k : Int)) := fun d j k hv hk => by
    have hN := t.isn _ _ hv
    have hl := isN_lo hN
    rw [hm3 _ (by omega) (by omega), hx _ (by omega) (by omega) (by omega) (by omega)]
    intro e
    have e' : ad d j + (k : Int) = a + ((0 : Nat) : Int) := by simpa using e
    exact hne _ _ hv (cell_inj hN haN hk (by decide) e').1.symm
  have hvP : ∀ d j, vP l.length (depN (l.length + 1)) (depN (l.length + 1)) d j → (vF l.length d j ∧ d < depN (l.length + 1)) ∨ (d = depN (l.length + 1) ∧ j = 0) := fun d j ⟨v1, v2, v3⟩ => by
    by_cases e : d = depN (l.length + 1)
    · subst e
      refine .inr ⟨rfl, ?_⟩
      rcases v3 with v3 | ⟨_, v4⟩
      · rcases Nat.eq_zero_or_pos j with h | h
        · exact h
        · have : 8 ^ depN (l.length + 1) ≤ j * 8 ^ depN (l.length + 1) := Nat.le_mul_of_pos_left _ h
          omega
      · rw [v4, Nat.div_eq_of_lt t1]
    · refine .inl ⟨⟨v1, by omega, ?_⟩, by omega⟩
      rcases v3 with v3 | ⟨v4, _⟩
      · exact v3
      · omega
  have hF : ∀ d j, vF l.length d j → vP l.length (depN (l.length + 1)) (depN (l.length + 1)) d j ∧ d ≠ depN (l.length + 1) := fun d j ⟨v1, v2, v3⟩ => ⟨⟨v1, by omega, .inl v3⟩, by omega⟩
  have hnew : vP l.length (depN (l.length + 1)) (depN (l.length + 1)) (depN (l.length + 1)) 0 := ⟨by omega, Nat.le_refl _, .inr ⟨Nat.le_refl _, (Nat.div_eq_of_lt t1).symm⟩⟩
  refine ⟨⟨fun d j hv => ⟨hv.1, hv.2.1⟩, ?_, ?_, ?_, ?_⟩, ?_, ?_, ?_, ?_, ?_, ?_⟩
  · intro d j hv
    rcases hvP _ _ hv with ⟨hv, e⟩ | ⟨rfl, rfl⟩
    · rw [if_neg (by omega)]; exact t.isn _ _ hv
    · rw [if_pos rfl]; exact haN
  · intro d j d' j' hv hv' e
    rcases hvP _ _ hv with ⟨hv, e1⟩ | ⟨e1, e2⟩ <;> rcases hvP _ _ hv' with ⟨hv', e3⟩ | ⟨e3, e4⟩
    · rw [if_neg (by omega), if_neg (by omega)] at e; exact t.inj _ _ _ _ hv hv' e
    · rw [if_neg (by omega), if_pos e3] at e; exact absurd e.symm (hne _ _ hv)
    · rw [if_pos e1, if_neg (by omega)] at e; exact absurd e (hne _ _ hv')
    · exact ⟨by omega, by omega⟩
  · intro d j hv hd2
    rcases hvP _ _ hv with ⟨hv, e⟩ | ⟨rfl, rfl⟩
    · by_cases e2 : d + 1 = depN (l.length + 1)
      · rw [e2]
        have hj : j = 0 := by
          obtain ⟨v1, v2, v3⟩ := hv
          have e3 : d = depN l.length := by omega
          subst e3
          rcases Nat.eq_zero_or_pos j with h | h
          · exact h
          · have : 8 ^ depN l.length ≤ j * 8 ^ depN l.length := Nat.le_mul_of_pos_left _ h
            omega
        subst hj
        exact hnew
      · exact (hF _ _ (t.par _ _ hv (by omega))).1
    · omega
  · intro d j hv hd2
    rcases hvP _ _ hv with ⟨hv, e⟩ | ⟨rfl, rfl⟩
    · by_cases e2 : d + 1 = depN (l.length + 1)
      · have e3 : d = depN l.length := by omega
        have hj : j = 0 := by
          obtain ⟨v1, v2, v3⟩ := hv
          subst e3
          rcases Nat.eq_zero_or_pos j with h | h
          · exact h
          · have : 8 ^ depN l.length ≤ j * 8 ^ depN l.length := Nat.le_mul_of_pos_left _ h
            omega
        subst hj
        have hv1 := hv.1
        have hv3 := hv.2.2
        rw [if_pos e2, if_neg (by omega)]
        have h0 : 0 < depN l.length := by omega
        have : upd (upd m2 8 a) 10 (depN (l.length + 1)) (a + ((0 % 8 : Nat) : Int)) = m 8 := by
          rw [show a + ((0 % 8 : Nat) : Int) = a by simp, upd_ne (by omega), upd_ne (by omega), h2, if_pos h0, upd_same]
        rw [this, q8 (by omega), e3]
      · have hv2 := t.par _ _ hv (by omega)
        rw [if_neg e2, if_neg (by omega), hoc _ _ _ hv2 (Nat.mod_lt _ (by decide)), t.link _ _ hv (by omega)]
    · omega
  · intro i v hi
    have hil := (List.getElem?_eq_some_iff.1 hi).1
    have hv : vF l.length 1 (i / 8) := ⟨Nat.le_refl _, u3 (by omega), by omega⟩
    rw [if_neg (Ne.symm (by have := (hF _ _ hv).2; omega)), hoc _ _ _ hv (Nat.mod_lt _ (by decide)), lf i v hi]
  · rw [hC]
    have hp2 : PoolM K (upd (upd m2 8 a) 10 (depN (l.length + 1))) (fun b => (∃ d j, vF l.length d j ∧ b = ad d j) ∨ b = a) ((T l.length + 1 : Nat) : Int) := by
      have := hp.eq (m' := upd (upd m2 8 a) 10 (depN (l.length + 1))) (hm3 3 (by decide) (by decide) (by omega)) (hm3 4 (by decide) (by decide) (by omega)) (hm3 5 (by decide) (by decide) (by omega))
        (fun x hxN hxU => by have := isN_lo hxN; exact hm3 x (by omega) (by omega) (fun e => hxU (.inr e)))
      simpa using this
    have hUU : (fun b => ∃ d j, vP l.length (depN (l.length + 1)) (depN (l.length + 1)) d j ∧ b = if d = depN (l.length + 1) then a else ad d j) = (fun b => (∃ d j, vF l.length d j ∧ b = ad d j) ∨ b = a) := by
      funext b
      refine propext ⟨?_, ?_⟩
      · rintro ⟨d, j, hv, rfl⟩
        rcases hvP _ _ hv with ⟨hv, e⟩ | ⟨e1, e2⟩
        · exact .inl ⟨d, j, hv, by rw [if_neg (by omega)]⟩
        · exact .inr (if_pos e1)
      · rintro (⟨d, j, hv, rfl⟩ | rfl)
        · exact ⟨d, j, (hF _ _ hv).1, by rw [if_neg (hF _ _ hv).2]⟩
        · exact ⟨_, 0, hnew, by rw [if_pos rfl]⟩
    rw [hUU]; exact hp2
  · rw [hm3 9 (by decide) (by decide) (by omega), hx 9 (by decide) (by decide) (by decide) (by decide), q9]
  · rw [upd_same]
  · rw [upd_ne (by decide), upd_same, if_pos rfl]
  · rw [hm3 15 (by decide) (by decide) (by omega), h15, hC]; rfl
end
end Sim

/- The plain law of the array: Push, whole. -/
namespace Sim
open Go Go.Vc
section
variable {s0 s : Sp} {K : Int} {m : Int → Int} {l : List Int} {ad : Nat → Nat → Int}
theorem vP_last {n : Nat} : vP n (depN (n + 1)) 1 = vF (n + 1) := by
  funext d j
  refine propext ⟨?_, ?_⟩
  · rintro ⟨h1, h2, h3⟩
    refine ⟨h1, h2, ?_⟩
    rcases h3 with h3 | ⟨_, rfl⟩
    · omega
    · have := Nat.div_mul_le_self n (8 ^ d); omega
  · rintro ⟨h1, h2, h3⟩
    refine ⟨h1, h2, ?_⟩
    have hj : j ≤ n / 8 ^ d := (Nat.le_div_iff_mul_le (Nat.pow_pos (by decide))).2 (by omega)
    rcases Nat.lt_or_eq_of_le hj with h | h
    · left
      have := Nat.div_mul_le_self n (8 ^ d)
      have h4 : j * 8 ^ d < n / 8 ^ d * 8 ^ d := Nat.mul_lt_mul_of_pos_right h (Nat.pow_pos (by decide))
      omega
    · exact .inr ⟨h1, h⟩

theorem Mid.full (h : Mid K m l (depN (l.length + 1)) 1 ad) (hn : l.length < 200) (v : Int) :
    Full K (upd (upd m (ad 1 (l.length / 8) + ((l.length % 8 : Nat) : Int)) v) 9 (l.length + 1)) (l ++ [v]) ad := by
  obtain ⟨t1, t2, t3⟩ := top_C _ hn
  have hC := last_C _ hn
  obtain ⟨t, lf, p, q9, q10, q8, q15⟩ := h
  have hpar : vP l.length (depN (l.length + 1)) 1 1 (l.length / 8) := ⟨Nat.le_refl _, t2, .inr ⟨Nat.le_refl _, by simp⟩⟩
  have hpN := t.isn _ _ hpar
  have hpl := isN_lo hpN
  generalize hcell : ad 1 (l.length / 8) + ((l.length % 8 : Nat) : Int) = cell
  have hlen : (l ++ [v]).length = l.length + 1 := by simp
  have hoc : ∀ d' j' (k : Nat), vP l.length (depN (l.length + 1)) 1 d' j' → k < 8 → ¬ (d' = 1 ∧ j' = l.length / 8 ∧ k = l.length % 8) → upd (upd m cell v) 9 (l.length + 1) (ad d' j' + (k : Int)) = m (ad d' j' + (k : Int)) := fun d' j' k hv hk hno => by
    have hl := isN_lo (t.isn _ _ hv)
    rw [upd_ne (by omega), upd_ne]
    intro e
    rw [← hcell] at e
    obtain ⟨e1, e2⟩ := cell_inj (t.isn _ _ hv) hpN hk (Nat.mod_lt _ (by decide)) e
    obtain ⟨e3, e4⟩ := t.inj _ _ _ _ hv hpar e1
    exact hno ⟨e3, e4, e2⟩
  have hlo : ∀ x, x < 24 → x ≠ 9 → upd (upd m cell v) 9 (l.length + 1) x = m x := fun x h1 h2 => by rw [upd_ne h2, upd_ne (by omega)]
  refine ⟨?_, ?_, ?_, ?_, ?_, ?_, ?_⟩
  · rw [hlen, ← vP_last]
    refine ⟨t.pos, t.isn, t.inj, t.par, fun d j hv hd => ?_⟩
    have := t.pos _ _ hv
    rw [hoc _ _ _ (t.par _ _ hv hd) (Nat.mod_lt _ (by decide)) (by omega), t.link _ _ hv hd]
  · intro i u hi
    have hil := (List.getElem?_eq_some_iff.1 hi).1
    rw [hlen] at hil
    by_cases e : i = l.length
    · subst e
      rw [List.getElem?_append_right (Nat.le_refl _)] at hi
      simp at hi
      subst hi
      rw [hcell, upd_ne (by omega), upd_same]
    · have hi2 : l[i]? = some u := by rw [List.getElem?_append_left (by omega)] at hi; exact hi
      have hv : vP l.length (depN (l.length + 1)) 1 1 (i / 8) := ⟨Nat.le_refl _, t2, .inl (by omega)⟩
      rw [hoc _ _ _ hv (Nat.mod_lt _ (by decide)) (by omega), lf i u hi2]
  · rw [hlen, ← vP_last, ← hC]
    refine p.eq (hlo 3 (by decide) (by decide)) (hlo 4 (by decide) (by decide)) (hlo 5 (by decide) (by decide)) (fun x hxN hxU => ?_)
    have hxl := isN_lo hxN
    rw [upd_ne (by omega), upd_ne]
    intro e
    rw [← hcell] at e
    have e' : x + ((0 : Nat) : Int) = ad 1 (l.length / 8) + ((l.length % 8 : Nat) : Int) := by simpa using e
    obtain ⟨e1, _⟩ := cell_inj hxN hpN (by decide) (Nat.mod_lt _ (by decide)) e'
    exact hxU ⟨_, _, hpar, e1⟩
  · rw [upd_same, hlen]; rfl
  · rw [hlo 10 (by decide) (by decide), q10, hlen]
  · intro _
    rw [hlo 8 (by decide) (by decide), q8, hlen]
  · rw [hlo 15 (by decide) (by decide), q15, hC, hlen]

theorem rest_ok (hK0 : 0 ≤ K) (hK : K ≤ 23) (hn : l.length < 200) (hv : View s0 (24 + 8 * K) s m) (hM : Mid K m l (depN (l.length + 1)) (depN (l.length + 1)) ad) (v : Int) :
    (∃ s' m' ad', (a0 K).rest l.length v (depN (l.length + 1)) s = ((l.length : Int), 0, s') ∧ View s0 (24 + 8 * K) s' m' ∧ Full K m' (l ++ [v]) ad') ∨
    (∃ s' m', (a0 K).rest l.length v (depN (l.length + 1)) s = (0, 9, s') ∧ View s0 (24 + 8 * K) s' m' ∧ K < (T (l.length + 1) : Int)) := by
  obtain ⟨t1, t2, t3⟩ := top_C _ hn
  have hdiv : l.length / 8 ^ depN (l.length + 1) = 0 := Nat.div_eq_of_lt t1
  have hnew : vP l.length (depN (l.length + 1)) (depN (l.length + 1)) (depN (l.length + 1)) 0 := ⟨by omega, Nat.le_refl _, .inr ⟨Nat.le_refl _, hdiv.symm⟩⟩
  have htN := hM.tree.isn _ _ hnew
  obtain ⟨s1, e1, hv1⟩ := anode_ok hK hv (cell := 8) (by omega) (by omega) (by rw [hM.top]; exact htN)
  rw [hM.top] at e1
  have e1' : (a0 K).node s (a0 K).root = (ad (depN (l.length + 1)) 0, true, s1) := e1
  obtain ⟨d, hd⟩ : ∃ d, depN (l.length + 1) = d + 1 := ⟨depN (l.length + 1) - 1, by omega⟩
  have hdown := down_ok hK0 hK hn d ad m s1 (by omega) hv1 (by rw [← hd]; exact hM)
  rw [← hd, hdiv] at hdown
  unfold Ar.rest
  rw [e1']
  simp only [if_true]
  rcases hdown with ⟨s2, m2, ad2, e2, hv2, hM2, hT⟩ | ⟨s2, m2, e2, hv2, hT⟩
  · left
    rw [e2]
    simp only [if_true]
    have hpar : vP l.length (depN (l.length + 1)) 1 1 (l.length / 8) := ⟨Nat.le_refl _, t2, .inr ⟨Nat.le_refl _, by simp⟩⟩
    have hpl := isN_lo (hM2.tree.isn _ _ hpar)
    have hmod : l.length % 8 < 8 := Nat.mod_lt _ (by decide)
    have hdg : dig (l.length : Int) 1 = ((l.length % 8 : Nat) : Int) := by have := dig_nat l.length 0 (by decide); simpa using this
    obtain ⟨s3, e3, hv3⟩ := hv2.put (a := ad2 1 (l.length / 8) + ((l.length % 8 : Nat) : Int)) (by omega) (by omega) v
    obtain ⟨s4, e4, hv4⟩ := hv3.put (a := 9) (by omega) (by omega) ((l.length : Int) + 1)
    refine ⟨s4, _, ad2, ?_, hv4, hM2.full hn v⟩
    rw [hdg, e3]
    show (_, _, s3.put 9 _) = _
    rw [e4]
  · right
    refine ⟨s2, m2, ?_, hv2, hT⟩
    rw [e2]
    rfl

theorem grow_ok (hK0 : 0 ≤ K) (hK : K ≤ 23) (hv : View s0 (24 + 8 * K) s m) (hF : Full K m l ad) (hg : depN l.length < depN (l.length + 1)) :
    (∃ s' m' ad', (a0 K).grow l.length (depN l.length) s = (0, s') ∧ View s0 (24 + 8 * K) s' m' ∧ Mid K m' l (depN (l.length + 1)) (depN (l.length + 1)) ad') ∨
    (∃ s' m', (a0 K).grow l.length (depN l.length) s = (9, s') ∧ View s0 (24 + 8 * K) s' m' ∧ K < (T (l.length + 1) : Int)) := by
  obtain ⟨hT, hn⟩ := hF.small hK
  obtain ⟨t1, t2, t3⟩ := top_C _ hn
  have hdep : dep ((l.length : Int) + 1) = depN (l.length + 1) := by rw [← dep_nat]; rfl
  obtain ⟨s1, e1, hv1⟩ := hv.get (a := 8) (by omega) (by omega)
  have hc : ∃ s2, (if 0 < depN l.length then (a0 K).node s1 (a0 K).root else (0, true, s1)).2 = (true, s2) ∧ View s0 (24 + 8 * K) s2 m := by
    by_cases h0 : 0 < depN l.length
    · have hl0 : 0 < l.length := by
        rcases Nat.eq_zero_or_pos l.length with h | h
        · rw [h] at h0; exact absurd h0 (by decide)
        · exact h
      have hv8 : vF l.length (depN l.length) 0 := ⟨h0, Nat.le_refl _, by omega⟩
      have hN := hF.tree.isn _ _ hv8
      obtain ⟨s2, e2, hv2⟩ := anode_ok hK hv1 (cell := 8) (by omega) (by omega) (by rw [hF.top hl0]; exact hN)
      exact ⟨s2, by rw [if_pos h0, show (a0 K).root = 8 from rfl, e2], hv2⟩
    · exact ⟨s1, by rw [if_neg h0], hv1⟩
  obtain ⟨s2, e2, hv2⟩ := hc
  have e1' : s.get (a0 K).root = (m 8, s1) := e1
  simp only [Ar.grow, e1', hdep]
  generalize (if 0 < depN l.length then (a0 K).node s1 (a0 K).root else (0, true, s1)) = c at e2
  rw [e2]
  simp only [if_true]
  by_cases hc : (T l.length : Int) < K
  · left
    obtain ⟨a, s3, m1, e3, hv3, hn3, hU, hp, h15, hx⟩ := atake_ok hK hv2 hF.pool hc hF.nodes
    have hal := isN_lo hn3
    rw [e3]
    simp only [if_true]
    have h4 : ∃ s4, (if 0 < depN l.length then s3.put a (m 8) else s3) = s4 ∧ View s0 (24 + 8 * K) s4 (if 0 < depN l.length then upd m1 a (m 8) else m1) := by
      by_cases h0 : 0 < depN l.length
      · rw [if_pos h0, if_pos h0]; exact hv3.put (by omega) (by omega) _
      · rw [if_neg h0, if_neg h0]; exact ⟨_, rfl, hv3⟩
    obtain ⟨s4, e4, hv4⟩ := h4
    obtain ⟨s5, e5, hv5⟩ := hv4.put (a := 8) (by omega) (by omega) a
    obtain ⟨s6, e6, hv6⟩ := hv5.put (a := 10) (by omega) (by omega) (depN (l.length + 1))
    refine ⟨s6, _, _, ?_, hv6, hF.grown hn hg hn3 hU hp h15 hx rfl⟩
    rw [e4]
    show (_, (s4.put 8 a).put 10 _) = _
    rw [e5, e6]
  · right
    obtain ⟨s3, e3, hv3⟩ := atake_full hK hv2 hF.pool (by omega)
    refine ⟨s3, m, ?_, hv3, ?_⟩
    · rw [e3]; rfl
    · have := T_le_C l.length hn (depN (l.length + 1)) (by omega) t2 (Nat.le_refl _)
      rw [grown_C _ hn hg] at this
      omega

theorem pushIn_ok (hK0 : 0 ≤ K) (hK : K ≤ 23) (hv : View s0 (24 + 8 * K) s m) (hF : Full K m l ad) (v : Int) :
    (∃ s' m' ad', (a0 K).pushIn l.length v (depN l.length) s = ((l.length : Int), 0, s') ∧ View s0 (24 + 8 * K) s' m' ∧ Full K m' (l ++ [v]) ad') ∨
    (∃ s' m', (a0 K).pushIn l.length v (depN l.length) s = (0, 9, s') ∧ View s0 (24 + 8 * K) s' m' ∧ K < (T (l.length + 1) : Int)) := by
  obtain ⟨hT, hn⟩ := hF.small hK
  have hdep : dep ((l.length : Int) + 1) = depN (l.length + 1) := by rw [← dep_nat]; rfl
  unfold Ar.pushIn
  rw [hdep]
  by_cases hg : depN l.length < depN (l.length + 1)
  · rw [if_pos hg]
    rcases grow_ok hK0 hK hv hF hg with ⟨s1, m1, ad1, e1, hv1, hM⟩ | ⟨s1, m1, e1, hv1, hT1⟩
    · rw [e1]
      simp only [if_true]
      exact rest_ok hK0 hK hn hv1 hM v
    · right
      refine ⟨s1, m1, ?_, hv1, hT1⟩
      rw [e1]; rfl
  · rw [if_neg hg, ← same_d _ hn hg]
    exact rest_ok hK0 hK hn hv (hF.mid hn hg) v
end

/-- The array over `K` nodes holds the list. -/
def Inv (K : Int) (s : Sp) (l : List Int) : Prop := ∃ m ad, View s (24 + 8 * K) s m ∧ Full K m l ad
section
variable {s : Sp} {K : Int} {l : List Int}
theorem push_ok (hK0 : 0 ≤ K) (hK : K ≤ 23) (h : Inv K s l) (v : Int) :
    (∃ s', (a0 K).push s v = ((l.length : Int), 0, s') ∧ Inv K s' (l ++ [v]) ∧ (T (l.length + 1) : Int) ≤ K) ∨ (∃ s', (a0 K).push s v = (0, 9, s') ∧ Inv K s' l ∧ K < (T (l.length + 1) : Int)) := by
  obtain ⟨m, ad, hv, hF⟩ := h
  obtain ⟨hT, hn⟩ := hF.small hK
  obtain ⟨s1, e1, hv1⟩ := many_ok2 hK0 hv (by omega) hF.many hF.depth
  unfold Ar.push
  rw [e1]
  dsimp only
  rw [if_pos rfl, if_neg (by omega), Int.toNat_natCast]
  rcases pushIn_ok hK0 hK hv1.base hF v with ⟨s2, m2, ad2, e2, hv2, hF2⟩ | ⟨s2, m2, e2, hv2, hT2⟩
  · left
    rw [e2]
    refine ⟨s2, by simp [Ar.undo], ⟨m2, ad2, hv2.base, hF2⟩, ?_⟩
    have := (hF2.small hK).1
    simpa using this
  · right
    rw [e2]
    obtain ⟨s3, e3, hv3⟩ := hv2.back hv1.base
    refine ⟨s3, ?_, ⟨m, ad, hv3.base, hF⟩, hT2⟩
    simp only [Ar.undo]
    rw [if_pos (by decide), e3]
end
end Sim

/- The plain law of the array: paths, Pop. -/
namespace Sim
open Go Go.Vc
def lost (n d : Nat) : Bool := decide (n % 8 ^ d = 0) || (decide (d = depN (n + 1)) && decide (depN n < depN (n + 1)))
/-- The number of nodes that go with element `n`, the levels up to `d`. -/
def G (n : Nat) : Nat → Nat
  | 0 => 0
  | d + 1 => (if lost n (d + 1) then 1 else 0) + G n d
set_option maxRecDepth 100000
theorem T_G : ∀ n, n < 200 → T (n + 1) = T n + G n (depN (n + 1)) := by decide
theorem dep_mono (n : Nat) (hn : n < 200) : depN n ≤ depN (n + 1) ∧ depN (n + 1) ≤ depN n + 1 := by
  by_cases hg : depN n < depN (n + 1)
  · rw [grown_d n hn hg]; omega
  · rw [same_d n hn hg]; omega
def vG (n d d' j : Nat) : Prop := vF (n + 1) d' j ∧ ¬ (d < d' ∧ j = n / 8 ^ d' ∧ lost n d' = true)
theorem vG_all {n : Nat} : vG n (depN (n + 1)) = vF (n + 1) := by
  funext d j
  refine propext ⟨fun h => h.1, fun h => ⟨h, fun h2 => ?_⟩⟩
  have := h.2.1; omega
theorem vG_none {n : Nat} (hn : n < 200) : vG n 0 = vF n := by
  obtain ⟨t1, t2, t3⟩ := top_C n hn
  obtain ⟨u1, u2⟩ := dep_mono n hn
  funext d j
  refine propext ⟨?_, ?_⟩
  · rintro ⟨⟨h1, h2, h3⟩, h4⟩
    have h5 : j * 8 ^ d < n := by
      rcases Nat.lt_or_eq_of_le (Nat.le_of_lt_succ h3) with h | h
      · exact h
      · exfalso
        refine h4 ⟨h1, ?_, ?_⟩
        · rw [← h, Nat.mul_div_cancel _ (Nat.pow_pos (by decide))]
        · simp [lost, ← h]
    refine ⟨h1, ?_, h5⟩
    by_cases e : d = depN (n + 1)
    · subst e
      refine Decidable.byContradiction fun hc => h4 ⟨h1, ?_, ?_⟩
      · rw [Nat.div_eq_of_lt t1]
        rcases Nat.eq_zero_or_pos j with h | h
        · exact h
        · have : 8 ^ depN (n + 1) ≤ j * 8 ^ depN (n + 1) := Nat.le_mul_of_pos_left _ h
          omega
      · simp only [lost, Bool.or_eq_true, Bool.and_eq_true, decide_eq_true_eq]
        exact .inr ⟨trivial, by omega⟩
    · omega
  · rintro ⟨h1, h2, h3⟩
    refine ⟨⟨h1, by omega, by omega⟩, ?_⟩
    rintro ⟨_, e, hl⟩
    simp only [lost, Bool.or_eq_true, Bool.and_eq_true, decide_eq_true_eq] at hl
    rcases hl with hl | ⟨hl, hl2⟩
    · rw [e, mul_div_eq hl] at h3; omega
    · omega
theorem vG_step {n d : Nat} (h : lost n (d + 1) = false) : vG n (d + 1) = vG n d := by
  funext d' j
  refine propext ⟨fun ⟨h1, h2⟩ => ⟨h1, fun ⟨h3, h4, h5⟩ => ?_⟩, fun ⟨h1, h2⟩ => ⟨h1, fun ⟨h3, h4, h5⟩ => h2 ⟨by omega, h4, h5⟩⟩⟩
  by_cases e : d' = d + 1
  · subst e; rw [h] at h5; cases h5
  · exact h2 ⟨by omega, h4, h5⟩
def pathL (ad : Nat → Nat → Int) (n : Nat) : Nat → List Int
  | 0 => []
  | d + 1 => ad (d + 1) (n / 8 ^ (d + 1)) :: pathL ad n d
theorem pathL_get (ad : Nat → Nat → Int) (n : Nat) : ∀ (d k : Nat), k < d → (pathL ad n d).getD k 0 = ad (d - k) (n / 8 ^ (d - k))
  | 0, k, h => absurd h (by omega)
  | d + 1, 0, _ => rfl
  | d + 1, k + 1, h => by
    rw [show d + 1 - (k + 1) = d - k by omega, ← pathL_get ad n d k (by omega)]; rfl
theorem pathL_last (ad : Nat → Nat → Int) (n : Nat) : ∀ (d : Nat), 1 ≤ d → lastD (pathL ad n d) = ad 1 (n / 8)
  | 0, h => absurd h (by omega)
  | 1, _ => by simp [pathL, lastD]
  | d + 2, _ => by
    have := pathL_last ad n (d + 1) (by omega)
    rw [← this]; simp [pathL, lastD]
theorem vF_path {n i d : Nat} (hi : i < n) (h1 : 1 ≤ d) (h2 : d ≤ depN n) : vF n d (i / 8 ^ d) :=
  ⟨h1, h2, Nat.lt_of_le_of_lt (Nat.div_mul_le_self _ _) hi⟩
section
variable {s0 s : Sp} {K : Int} {m : Int → Int} {l : List Int} {ad : Nat → Nat → Int}
theorem way_ok {n i : Nat} (hK : K ≤ 23) (hn : n < 200) (hi : i < n) (hT : Tree K m (depN n) (vF n) ad) : ∀ (d : Nat) (cell : Int) (s : Sp) (acc : List Int), d ≤ depN n → 0 ≤ cell → cell < 24 + 8 * K → (1 ≤ d → m cell = ad d (i / 8 ^ d)) →
    View s0 (24 + 8 * K) s m → ∃ s', (a0 K).way i d cell s acc = (some (acc ++ pathL ad i d), s') ∧ View s0 (24 + 8 * K) s' m
  | 0, cell, s, acc, _, _, _, _, hv => ⟨s, by simp [Ar.way, pathL], hv⟩
  | d + 1, cell, s, acc, hd, h0, h1, hc, hv => by
    obtain ⟨_, u2, _⟩ := dep_C _ hn
    have hN := hT.isn _ _ (vF_path hi (by omega) hd)
    have hl := isN_lo hN
    have hc := hc (by omega)
    obtain ⟨s1, e1, hv1⟩ := anode_ok hK hv h0 h1 (by rw [hc]; exact hN)
    have hdg := dig_nat i d (by omega)
    have hmod : i / 8 ^ d % 8 < 8 := Nat.mod_lt _ (by decide)
    simp only [Ar.way, e1, if_true]
    rw [hdg, hc]
    obtain ⟨s2, e2, hv2⟩ := way_ok hK hn hi hT d (ad (d + 1) (i / 8 ^ (d + 1)) + ((i / 8 ^ d % 8 : Nat) : Int)) s1 (acc ++ [ad (d + 1) (i / 8 ^ (d + 1))]) (by omega) (by omega) (by omega) (fun h => by
      have := hT.link d (i / 8 ^ d) (vF_path hi h (by omega)) (by omega)
      rw [div_step] at this; exact this) hv1
    exact ⟨s2, by rw [e2]; simp [pathL], hv2⟩

theorem gives_ok {n : Nat} (hK : K ≤ 23) (hn : n < 200) (hin : ∀ d j d' j', vF (n + 1) d j → vF (n + 1) d' j' → ad d j = ad d' j' → d = d' ∧ j = j') : ∀ (d gone : Nat) (m : Int → Int) (s : Sp), d ≤ depN (n + 1) → View s0 (24 + 8 * K) s m →
    PoolM K m (fun b => ∃ d' j, vG n d d' j ∧ b = ad d' j) ((T n + G n d : Nat) : Int) →
    ∃ s' m', (a0 K).gives ((n : Int) + 1) (depN (n + 1)) (depN n) (pathL ad n d) (depN (n + 1) - d) gone s = (0, ((gone + G n d : Nat) : Int), s') ∧ View s0 (24 + 8 * K) s' m' ∧
      PoolM K m' (fun b => ∃ d' j, vG n 0 d' j ∧ b = ad d' j) (T n) ∧ ∀ x, x ≠ 3 → x ≠ 5 → (∀ d', 1 ≤ d' → d' ≤ d → lost n d' = true → x ≠ ad d' (n / 8 ^ d')) → m' x = m x
  | 0, gone, m, s, _, hv, hp => ⟨s, m, by simp [Ar.gives, pathL, G], hv, by simpa [G] using hp, fun _ _ _ _ => rfl⟩
  | d + 1, gone, m, s, hd, hv, hp => by
    obtain ⟨t1, t2, t3⟩ := top_C n hn
    obtain ⟨u1, u2⟩ := dep_mono n hn
    have hpw : pw (depN (n + 1) - (depN (n + 1) - (d + 1))) = ((8 ^ (d + 1) : Nat) : Int) := by rw [show depN (n + 1) - (depN (n + 1) - (d + 1)) = d + 1 by omega]; exact pw_nat _ (by omega)
    have hi : depN (n + 1) - (d + 1) + 1 = depN (n + 1) - d := by omega
    have hsub : (n : Int) + 1 - 1 = n := by omega
    simp only [pathL, Ar.gives, hpw, hi, hsub]
    cases hl : lost n (d + 1) with
    | true =>
      have hG : G n (d + 1) = G n d + 1 := by simp [G, hl]; omega
      have hl2 := hl
      simp only [lost, Bool.or_eq_true, Bool.and_eq_true, decide_eq_true_eq] at hl2
      rw [if_neg (by
        rintro ⟨h1, h2⟩
        rcases hl2 with h3 | ⟨h3, h4⟩
        · have : (n : Int) % ((8 ^ (d + 1) : Nat) : Int) = ((n % 8 ^ (d + 1) : Nat) : Int) := by omega
          rw [this, h3] at h1; exact h1 rfl
        · omega)]
      have hv1 : vG n (d + 1) (d + 1) (n / 8 ^ (d + 1)) := ⟨vF_path (by omega) (by omega) hd, fun h => by omega⟩
      obtain ⟨s1, m1, e1, hw1, hp1, hx1⟩ := give_ok hK hv hp (by omega) ⟨_, _, hv1, rfl⟩
      rw [show (a0 K).pool = p0 K from rfl, e1]
      simp only [if_true]
      have hUU : (fun b => (∃ d' j, vG n (d + 1) d' j ∧ b = ad d' j) ∧ b ≠ ad (d + 1) (n / 8 ^ (d + 1))) = (fun b => ∃ d' j, vG n d d' j ∧ b = ad d' j) := by
        funext b
        refine propext ⟨?_, ?_⟩
        · rintro ⟨⟨d', j, ⟨h1, h2⟩, rfl⟩, hne⟩
          refine ⟨d', j, ⟨h1, fun ⟨h3, h4, h5⟩ => ?_⟩, rfl⟩
          by_cases e : d' = d + 1
          · subst e; exact hne (by rw [h4])
          · exact h2 ⟨by omega, h4, h5⟩
        · rintro ⟨d', j, ⟨h1, h2⟩, rfl⟩
          refine ⟨⟨d', j, ⟨h1, fun ⟨h3, h4, h5⟩ => h2 ⟨by omega, h4, h5⟩⟩, rfl⟩, fun e => ?_⟩
          obtain ⟨e1, e2⟩ := hin _ _ _ _ h1 hv1.1 e
          subst e1
          exact h2 ⟨by omega, e2, hl⟩
      have hp2 : PoolM K m1 (fun b => ∃ d' j, vG n d d' j ∧ b = ad d' j) ((T n + G n d : Nat) : Int) := by
        rw [← hUU]
        have : ((T n + G n d : Nat) : Int) = ((T n + G n (d + 1) : Nat) : Int) - 1 := by omega
        rw [this]; exact hp1
      obtain ⟨s2, m2, e2, hw2, hp3, hx2⟩ := gives_ok hK hn hin d (gone + 1) m1 s1 (by omega) hw1 hp2
      refine ⟨s2, m2, ?_, hw2, hp3, fun x h3 h5 hno => ?_⟩
      · have : ((gone + 1 : Nat) : Int) = (gone : Int) + 1 := by omega
        rw [← this, e2, hG]
        congr 2; omega
      · rw [hx2 x h3 h5 (fun d' h1 h2 h3 => hno d' h1 (by omega) h3), hx1 x h3 h5 (hno (d + 1) (by omega) (by omega) hl)]
    | false =>
      have hG : G n (d + 1) = G n d := by simp [G, hl]
      have hl2 := hl
      simp only [lost, Bool.or_eq_false_iff, Bool.and_eq_false_iff, decide_eq_false_iff_not] at hl2
      obtain ⟨h1, h2⟩ := hl2
      rw [if_pos ⟨by
        have : (n : Int) % ((8 ^ (d + 1) : Nat) : Int) = ((n % 8 ^ (d + 1) : Nat) : Int) := by omega
        rw [this]; omega, by omega⟩]
      rw [vG_step hl, hG] at hp
      obtain ⟨s2, m2, e2, hw2, hp3, hx2⟩ := gives_ok hK hn hin d gone m s (by omega) hv hp
      exact ⟨s2, m2, by rw [e2, hG], hw2, hp3, fun x h3 h5 hno => hx2 x h3 h5 (fun d' h1 h2 h3 => hno d' h1 (by omega) h3)⟩

theorem fell_ok (hK0 : 0 ≤ K) (hv : View s0 (24 + 8 * K) s m) {n D now : Nat} {gone top c : Int} (h15 : m 15 = c) (hc : 0 ≤ c - gone ∧ c ≤ 1000) (hg : 0 ≤ gone) (h10 : ¬ now < D → m 10 = now) :
    ∃ s' m', (a0 K).fell ((n : Int) + 1) D now top gone s = s' ∧ View s0 (24 + 8 * K) s' m' ∧ m' 15 = c - gone ∧ m' 10 = now ∧ m' 9 = n ∧ m' 8 = (if now < D then top else m 8) ∧ ∀ x, x ≠ 8 → x ≠ 9 → x ≠ 10 → x ≠ 15 → m' x = m x := by
  have h1 : ∃ s1 m1, (if 0 < gone then (s.get 15).2.put 15 (w64 ((s.get 15).1 - gone)) else s) = s1 ∧ View s0 (24 + 8 * K) s1 m1 ∧ m1 15 = c - gone ∧ ∀ x, x ≠ 15 → m1 x = m x := by
    by_cases h : 0 < gone
    · rw [if_pos h]
      obtain ⟨s1, e1, hv1⟩ := hv.get (a := 15) (by omega) (by omega)
      rw [e1]
      obtain ⟨s2, e2, hv2⟩ := hv1.put (a := 15) (by omega) (by omega) (w64 (m 15 - gone))
      exact ⟨s2, _, e2, hv2, by rw [upd_same, h15, w64_id (by omega) (by omega)], fun x hx => upd_ne hx⟩
    · rw [if_neg h]
      exact ⟨s, m, rfl, hv, by omega, fun _ _ => rfl⟩
  obtain ⟨s1, m1, e1, hv1, h1a, h1b⟩ := h1
  have h2 : ∃ s2 m2, (if now < D then (s1.put 8 top).put 10 (now : Int) else s1) = s2 ∧ View s0 (24 + 8 * K) s2 m2 ∧ m2 10 = now ∧ m2 8 = (if now < D then top else m 8) ∧ ∀ x, x ≠ 8 → x ≠ 10 → m2 x = m1 x := by
    by_cases h : now < D
    · rw [if_pos h, if_pos h]
      obtain ⟨s2, e2, hv2⟩ := hv1.put (a := 8) (by omega) (by omega) top
      rw [e2]
      obtain ⟨s3, e3, hv3⟩ := hv2.put (a := 10) (by omega) (by omega) now
      exact ⟨s3, _, e3, hv3, upd_same _ _ _, by rw [upd_ne (by decide), upd_same], fun x h1 h2 => by rw [upd_ne h2, upd_ne h1]⟩
    · rw [if_neg h, if_neg h]
      exact ⟨s1, m1, rfl, hv1, by rw [h1b 10 (by decide), h10 h], h1b 8 (by decide), fun _ _ _ => rfl⟩
  obtain ⟨s2, m2, e2, hv2, h2a, h2b, h2c⟩ := h2
  obtain ⟨s3, e3, hv3⟩ := hv2.put (a := 9) (by omega) (by omega) n
  refine ⟨s3, _, ?_, hv3, ?_, ?_, upd_same _ _ _, ?_, fun x h8 h9 h10 h15 => by rw [upd_ne h9, h2c x h8 h10, h1b x h15]⟩
  · have hsub : (n : Int) + 1 - 1 = n := by omega
    simp only [Ar.fell, a0, show (8 : Int) + 7 = 15 from rfl, show (8 : Int) + 2 = 10 from rfl, show (8 : Int) + 1 = 9 from rfl, hsub, e1, e2, e3]
  · rw [upd_ne (by decide), h2c 15 (by decide) (by decide), h1a]
  · rw [upd_ne (by decide), h2a]
  · rw [upd_ne (by decide), h2b]
end
end Sim

/- The plain law of the array: Pop, whole. -/
namespace Sim
open Go Go.Vc
section
variable {s0 s : Sp} {K : Int} {m : Int → Int} {l : List Int} {ad : Nat → Nat → Int}

theorem Full.pop {v : Int} (h : Full K m (l ++ [v]) ad) (hn : l.length < 200) {m1 m2 : Int → Int} (hp : PoolM K m1 (fun b => ∃ d' j, vG l.length 0 d' j ∧ b = ad d' j) (T l.length))
    (hx : ∀ x, x ≠ 3 → x ≠ 5 → (∀ d', 1 ≤ d' → d' ≤ depN (l.length + 1) → lost l.length d' = true → x ≠ ad d' (l.length / 8 ^ d')) → m1 x = m x)
    (h15 : m2 15 = T l.length) (h10 : m2 10 = depN l.length) (h9 : m2 9 = l.length) (h8 : 0 < l.length → m2 8 = if depN l.length < depN (l.length + 1) then ad (depN l.length) 0 else m 8)
    (hx2 : ∀ x, x ≠ 8 → x ≠ 9 → x ≠ 10 → x ≠ 15 → m2 x = m1 x) : Full K m2 l ad := by
  have hlen : (l ++ [v]).length = l.length + 1 := by simp
  obtain ⟨t, lf, p, q9, q10, q8, q15⟩ := h
  rw [hlen] at t p q9 q10 q8 q15
  obtain ⟨u1, u2⟩ := dep_mono _ hn
  obtain ⟨w1, w2, w3⟩ := dep_C _ hn
  have hsub : ∀ d j, vF l.length d j → vF (l.length + 1) d j := fun d j ⟨h1, h2, h3⟩ => ⟨h1, by omega, by omega⟩
  have hnl : ∀ d j d', vF l.length d j → 1 ≤ d' → d' ≤ depN (l.length + 1) → lost l.length d' = true → ∀ k : Nat, k < 8 → ad d j + (k : Int) ≠ ad d' (l.length / 8 ^ d') := fun d j d' hv h1 h2 hl k hk e => by
    have hv' : vF (l.length + 1) d' (l.length / 8 ^ d') := vF_path (by omega) h1 h2
    have e' : ad d j + (k : Int) = ad d' (l.length / 8 ^ d') + ((0 : Nat) : Int) := by simpa using e
    obtain ⟨e1, _⟩ := cell_inj (t.isn _ _ (hsub _ _ hv)) (t.isn _ _ hv') hk (by decide) e'
    obtain ⟨e2, e3⟩ := t.inj _ _ _ _ (hsub _ _ hv) hv' e1
    subst e2
    rw [← vG_none hn] at hv
    exact hv.2 ⟨h1, e3, hl⟩
  have hoc : ∀ d j (k : Nat), vF l.length d j → k < 8 → m2 (ad d j + (k : Int)) = m (ad d j + (k : Int)) := fun d j k hv hk => by
    have hl := isN_lo (t.isn _ _ (hsub _ _ hv))
    rw [hx2 _ (by omega) (by omega) (by omega) (by omega), hx _ (by omega) (by omega) (fun d' h1 h2 h3 => hnl d j d' hv h1 h2 h3 k hk)]
  refine ⟨⟨fun d j hv => ⟨hv.1, hv.2.1⟩, fun d j hv => t.isn _ _ (hsub _ _ hv), fun d j d' j' hv hv' e => t.inj _ _ _ _ (hsub _ _ hv) (hsub _ _ hv') e, fun d j hv hd => ?_, fun d j hv hd => ?_⟩, ?_, ?_, h9, h10, ?_, h15⟩
  · refine ⟨by omega, by omega, ?_⟩
    have h3 := hv.2.2
    have : j / 8 * 8 ^ (d + 1) ≤ j * 8 ^ d := by
      rw [Nat.pow_succ, Nat.mul_comm (8 ^ d) 8, ← Nat.mul_assoc]
      exact Nat.mul_le_mul_right _ (Nat.div_mul_le_self _ _)
    omega
  · have hpar : vF l.length (d + 1) (j / 8) := by
      refine ⟨by omega, by omega, ?_⟩
      have h3 := hv.2.2
      have : j / 8 * 8 ^ (d + 1) ≤ j * 8 ^ d := by
        rw [Nat.pow_succ, Nat.mul_comm (8 ^ d) 8, ← Nat.mul_assoc]
        exact Nat.mul_le_mul_right _ (Nat.div_mul_le_self _ _)
      omega
    rw [hoc _ _ _ hpar (Nat.mod_lt _ (by decide)), t.link _ _ (hsub _ _ hv) (by omega)]
  · intro i u hi
    have hil := (List.getElem?_eq_some_iff.1 hi).1
    have hv : vF l.length 1 (i / 8) := ⟨Nat.le_refl _, w3 (by omega), by omega⟩
    rw [hoc _ _ _ hv (Nat.mod_lt _ (by decide)), lf i u (by rw [List.getElem?_append_left hil]; exact hi)]
  · rw [vG_none hn] at hp
    exact hp.eq (hx2 3 (by decide) (by decide) (by decide) (by decide)) (hx2 4 (by decide) (by decide) (by decide) (by decide)) (hx2 5 (by decide) (by decide) (by decide) (by decide))
      (fun x hxN _ => by have := isN_lo hxN; exact hx2 x (by omega) (by omega) (by omega) (by omega))
  · intro h0
    rw [h8 h0]
    by_cases hg : depN l.length < depN (l.length + 1)
    · rw [if_pos hg]
    · rw [if_neg hg, q8 (by omega), show depN (l.length + 1) = depN l.length by omega]

theorem popOn_ok (hK0 : 0 ≤ K) (hK : K ≤ 23) {v top : Int} (hv : View s0 (24 + 8 * K) s m) (hF : Full K m (l ++ [v]) ad) (hn : l.length < 200) (htop : 0 < l.length → depN l.length < depN (l.length + 1) → top = ad (depN l.length) 0) :
    ∃ s' m', (a0 K).popOn ((l.length : Int) + 1) (depN (l.length + 1)) (depN l.length) (pathL ad l.length (depN (l.length + 1))) v top s = (v, 0, s') ∧ View s0 (24 + 8 * K) s' m' ∧ Full K m' l ad := by
  have hlen : (l ++ [v]).length = l.length + 1 := by simp
  obtain ⟨u1, u2⟩ := dep_mono _ hn
  have hT := T_G _ hn
  have hin := hF.tree.inj
  have hp := hF.pool
  have h15 := hF.nodes
  have h10 := hF.depth
  have hTs := (hF.small hK).1
  rw [hlen] at hin hp h15 h10 hTs
  obtain ⟨s1, m1, e1, hv1, hp1, hx⟩ := gives_ok hK hn hin (depN (l.length + 1)) 0 m s (Nat.le_refl _) hv (by rw [vG_all, ← hT]; exact hp)
  rw [Nat.sub_self] at e1
  have e1' : (a0 K).gives ((l.length : Int) + 1) (depN (l.length + 1)) (depN l.length) (pathL ad l.length (depN (l.length + 1))) 0 0 s = (0, ((0 + G l.length (depN (l.length + 1)) : Nat) : Int), s1) := e1
  have hlo : ∀ x, x < 24 → x ≠ 3 → x ≠ 5 → m1 x = m x := fun x h1 h3 h5 => hx x h3 h5 (fun d' h6 h7 h8 e => by
    have := isN_lo (hF.tree.isn d' (l.length / 8 ^ d') (by rw [hlen]; exact vF_path (by omega) h6 h7))
    omega)
  obtain ⟨s2, m2, e2, hv2, f15, f10, f9, f8, fx⟩ := fell_ok (n := l.length) (D := depN (l.length + 1)) (now := depN l.length) (gone := ((0 + G l.length (depN (l.length + 1)) : Nat) : Int)) (top := top) (c := (T (l.length + 1) : Int)) hK0 hv1
    (by rw [hlo 15 (by decide) (by decide) (by decide), h15]) (by omega) (by omega) (fun h => by rw [hlo 10 (by decide) (by decide) (by decide), h10]; omega)
  refine ⟨s2, m2, ?_, hv2, hF.pop hn hp1 hx (by rw [f15]; omega) f10 f9 ?_ fx⟩
  · unfold Ar.popOn
    rw [e1']
    dsimp only
    rw [if_pos rfl, e2]
  · intro h0
    rw [f8, hlo 8 (by decide) (by decide) (by decide)]
    by_cases hg : depN l.length < depN (l.length + 1)
    · rw [if_pos hg, if_pos hg, htop h0 hg]
    · rw [if_neg hg, if_neg hg]

theorem popIn_ok (hK0 : 0 ≤ K) (hK : K ≤ 23) {v : Int} (hv : View s0 (24 + 8 * K) s m) (hF : Full K m (l ++ [v]) ad) :
    ∃ s' m', (a0 K).popIn ((l.length : Int) + 1) (depN (l.length + 1)) s = (v, 0, s') ∧ View s0 (24 + 8 * K) s' m' ∧ Full K m' l ad := by
  have hlen : (l ++ [v]).length = l.length + 1 := by simp
  have hsm := (hF.small hK).2
  rw [hlen] at hsm
  have hn : l.length < 200 := by omega
  obtain ⟨u1, u2⟩ := dep_mono _ hn
  obtain ⟨t1, t2, t3⟩ := top_C _ hn
  have hT := hF.tree
  rw [hlen] at hT
  have hv1 : vF (l.length + 1) (depN (l.length + 1)) 0 := ⟨t2, Nat.le_refl _, by omega⟩
  have htopE := hF.top (by simp)
  rw [hlen] at htopE
  have hdiv : l.length / 8 ^ depN (l.length + 1) = 0 := Nat.div_eq_of_lt t1
  obtain ⟨s1, e1, hw1⟩ := way_ok (i := l.length) hK hsm (by omega) hT (depN (l.length + 1)) 8 s [] (Nat.le_refl _) (by omega) (by omega) (fun _ => by rw [hdiv]; exact htopE) hv
  have hleafV : vF (l.length + 1) 1 (l.length / 8) := by have := vF_path (n := l.length + 1) (i := l.length) (d := 1) (by omega) (Nat.le_refl _) t2; simpa using this
  have hlb := isN_lo (hT.isn _ _ hleafV)
  have hmod : l.length % 8 < 8 := Nat.mod_lt _ (by decide)
  have hdg : dig (l.length : Int) 1 = ((l.length % 8 : Nat) : Int) := by have := dig_nat l.length 0 (by decide); simpa using this
  obtain ⟨s2, e2, hw2⟩ := hw1.get (a := ad 1 (l.length / 8) + ((l.length % 8 : Nat) : Int)) (by omega) (by omega)
  rw [hF.leaf l.length v (by simp)] at e2
  have hdN : dep (l.length : Int) = depN l.length := dep_nat _
  have e1' : (a0 K).way (l.length : Int) (depN (l.length + 1)) (a0 K).root s [] = (some (pathL ad l.length (depN (l.length + 1))), s1) := e1
  have hsub : (l.length : Int) + 1 - 1 = l.length := by omega
  have hgl := pathL_get ad l.length (depN (l.length + 1)) (depN (l.length + 1) - 1) (by omega)
  rw [show depN (l.length + 1) - (depN (l.length + 1) - 1) = 1 by omega, Nat.pow_one] at hgl
  have hg0 := pathL_get ad l.length (depN (l.length + 1)) 0 (by omega)
  rw [Nat.sub_zero, hdiv] at hg0
  unfold Ar.popIn
  rw [hsub, e1']
  dsimp only
  rw [hgl, hdg, e2, hdN, hg0]
  dsimp only
  by_cases hc : 0 < depN l.length ∧ depN l.length < depN (l.length + 1)
  · rw [if_pos hc]
    have hv0 : vF (l.length + 1) (depN l.length) 0 := ⟨hc.1, by omega, by omega⟩
    have hlk := hT.link _ _ hv0 hc.2
    rw [show depN l.length + 1 = depN (l.length + 1) by omega] at hlk
    have hlk' : m (ad (depN (l.length + 1)) 0) = ad (depN l.length) 0 := by simpa using hlk
    have htb := isN_lo (hT.isn _ _ hv1)
    obtain ⟨s3, e3, hw3⟩ := anode_ok hK hw2 (cell := ad (depN (l.length + 1)) 0) (by omega) (by omega) (by rw [hlk']; exact hT.isn _ _ hv0)
    rw [e3]
    simp only [if_true]
    exact popOn_ok hK0 hK hw3 hF hn (fun _ _ => hlk')
  · rw [if_neg hc]
    refine popOn_ok hK0 hK hw2 hF hn (fun h0 hg => ?_)
    have := (dep_C _ hn).2.2 h0
    exact absurd ⟨by omega, hg⟩ hc

theorem pop_ok (hK0 : 0 ≤ K) (hK : K ≤ 23) {v : Int} (h : Inv K s (l ++ [v])) : ∃ s', (a0 K).pop s = (v, 0, s') ∧ Inv K s' l := by
  obtain ⟨m, ad, hv, hF⟩ := h
  have hlen : (l ++ [v]).length = l.length + 1 := by simp
  obtain ⟨hT, hn⟩ := hF.small hK
  have hmany := hF.many
  have hdepth := hF.depth
  obtain ⟨s1, e1, hv1⟩ := many_ok2 (n := l.length + 1) hK0 hv (by omega) (by rw [hmany, hlen]) (by rw [hdepth, hlen])
  obtain ⟨s2, m2, e2, hv2, hF2⟩ := popIn_ok hK0 hK hv1 hF
  refine ⟨s2, ?_, ⟨m2, ad, hv2.base, hF2⟩⟩
  unfold Ar.pop
  rw [e1]
  dsimp only
  rw [if_neg (by omega), if_pos rfl, Int.toNat_natCast, show ((l.length + 1 : Nat) : Int) = (l.length : Int) + 1 by omega, e2]
  simp [Ar.undoPop]
theorem pop_none (hK0 : 0 ≤ K) (h : Inv K s []) : ∃ s', (a0 K).pop s = (0, 8, s') ∧ Inv K s' [] := by
  obtain ⟨m, ad, hv, hF⟩ := h
  obtain ⟨s1, e1, hv1⟩ := many_ok2 (n := 0) hK0 hv (by omega) hF.many hF.depth
  refine ⟨s1, ?_, ⟨m, ad, hv1.base, hF⟩⟩
  unfold Ar.pop
  rw [e1]
  rfl
end
end Sim

/- The plain law of the array: place, Get, Set, Swap. -/
namespace Sim
open Go Go.Vc
section
variable {s0 s : Sp} {K : Int} {m : Int → Int} {l : List Int} {ad : Nat → Nat → Int}
theorem place_ok (hK0 : 0 ≤ K) (hK : K ≤ 23) (hv : View s0 (24 + 8 * K) s m) (hF : Full K m l ad) {i : Nat} (hi : i < l.length) :
    ∃ s', (a0 K).place s i = (ad 1 (i / 8) + ((i % 8 : Nat) : Int), 0, s') ∧ View s0 (24 + 8 * K) s' m := by
  obtain ⟨hT, hn⟩ := hF.small hK
  obtain ⟨w1, w2, w3⟩ := dep_C _ hn
  obtain ⟨s1, e1, hv1⟩ := hv.get (a := 9) (by omega) (by omega)
  have e1' : s.get ((a0 K).root + 1) = ((l.length : Int), s1) := by rw [← hF.many]; exact e1
  obtain ⟨s2, e2, hv2⟩ := many_ok2 hK0 hv1 (by omega) hF.many hF.depth
  have htop := hF.top (by omega)
  have hdiv : i / 8 ^ depN l.length = 0 := Nat.div_eq_of_lt (by omega)
  obtain ⟨s3, e3, hv3⟩ := way_ok hK hn hi hF.tree (depN l.length) 8 s2 [] (Nat.le_refl _) (by omega) (by omega) (fun _ => by rw [hdiv]; exact htop) hv2
  have e3' : (a0 K).way (i : Int) (depN l.length) (a0 K).root s2 [] = (some (pathL ad i (depN l.length)), s3) := e3
  have hdg : dig (i : Int) 1 = ((i % 8 : Nat) : Int) := by have := dig_nat i 0 (by decide); simpa using this
  refine ⟨s3, ?_, hv3⟩
  unfold Ar.place
  rw [if_neg (by omega), e1']
  dsimp only
  rw [if_neg (by omega), e2]
  dsimp only
  rw [if_pos rfl, Int.toNat_natCast, e3']
  dsimp only
  rw [pathL_last _ _ _ (w3 (by omega)), hdg]
theorem place_out (hK0 : 0 ≤ K) (hv : View s0 (24 + 8 * K) s m) (hF : Full K m l ad) {i : Int} (hi : i < 0 ∨ (l.length : Int) ≤ i) :
    ∃ s', (a0 K).place s i = (0, 3, s') ∧ View s0 (24 + 8 * K) s' m := by
  obtain ⟨s1, e1, hv1⟩ := hv.get (a := 9) (by omega) (by omega)
  have e1' : s.get ((a0 K).root + 1) = ((l.length : Int), s1) := by rw [← hF.many]; exact e1
  unfold Ar.place
  by_cases h : i < 0
  · rw [if_pos h]; exact ⟨s, rfl, hv⟩
  · rw [if_neg h, e1']
    dsimp only
    rw [if_pos (by omega)]; exact ⟨s1, rfl, hv1⟩

theorem Full.cell (hF : Full K m l ad) {i : Nat} (hi : i < l.length) (hn : l.length < 200) : vF l.length 1 (i / 8) ∧ 24 ≤ ad 1 (i / 8) + ((i % 8 : Nat) : Int) ∧ ad 1 (i / 8) + ((i % 8 : Nat) : Int) < 24 + 8 * K := by
  obtain ⟨w1, w2, w3⟩ := dep_C _ hn
  have hv : vF l.length 1 (i / 8) := ⟨Nat.le_refl _, w3 (by omega), by omega⟩
  have := isN_lo (hF.tree.isn _ _ hv)
  exact ⟨hv, by omega, by omega⟩

theorem Full.set (hF : Full K m l ad) {i : Nat} (hi : i < l.length) (hn : l.length < 200) (v : Int) : Full K (upd m (ad 1 (i / 8) + ((i % 8 : Nat) : Int)) v) (l.set i v) ad := by
  obtain ⟨hv, h1, h2⟩ := hF.cell hi hn
  obtain ⟨t, lf, p, q9, q10, q8, q15⟩ := hF
  have hN := t.isn _ _ hv
  have hlen : (l.set i v).length = l.length := by simp
  generalize hcell : ad 1 (i / 8) + ((i % 8 : Nat) : Int) = cell at h1 h2 ⊢
  have hoc : ∀ d j (k : Nat), vF l.length d j → k < 8 → ¬ (d = 1 ∧ j = i / 8 ∧ k = i % 8) → upd m cell v (ad d j + (k : Int)) = m (ad d j + (k : Int)) := fun d j k hv' hk hno => upd_ne fun e => by
    rw [← hcell] at e
    obtain ⟨e1, e2⟩ := cell_inj (t.isn _ _ hv') hN hk (Nat.mod_lt _ (by decide)) e
    obtain ⟨e3, e4⟩ := t.inj _ _ _ _ hv' hv e1
    exact hno ⟨e3, e4, e2⟩
  have hlo : ∀ x, x < 24 → upd m cell v x = m x := fun x hx => upd_ne (by omega)
  refine ⟨?_, ?_, ?_, ?_, ?_, ?_, ?_⟩
  · rw [hlen]
    refine ⟨t.pos, t.isn, t.inj, t.par, fun d j hv' hd => ?_⟩
    have := t.pos _ _ hv'
    rw [hoc _ _ _ (t.par _ _ hv' hd) (Nat.mod_lt _ (by decide)) (by omega), t.link _ _ hv' hd]
  · intro q u hq
    have hql := (List.getElem?_eq_some_iff.1 hq).1
    rw [hlen] at hql
    by_cases e : q = i
    · subst e
      rw [List.getElem?_set_self hi] at hq
      cases hq
      rw [hcell, upd_same]
    · rw [List.getElem?_set_ne (Ne.symm e)] at hq
      have w3 := (dep_C _ hn).2.2 (by omega)
      have hv' : vF l.length 1 (q / 8) := ⟨Nat.le_refl _, w3, by omega⟩
      rw [hoc _ _ _ hv' (Nat.mod_lt _ (by decide)) (by omega), lf q u hq]
  · rw [hlen]
    refine p.eq (hlo 3 (by decide)) (hlo 4 (by decide)) (hlo 5 (by decide)) (fun x hxN hxU => upd_ne fun e => ?_)
    rw [← hcell] at e
    have e' : x + ((0 : Nat) : Int) = ad 1 (i / 8) + ((i % 8 : Nat) : Int) := by simpa using e
    obtain ⟨e1, _⟩ := cell_inj hxN hN (by decide) (Nat.mod_lt _ (by decide)) e'
    exact hxU ⟨_, _, hv, e1⟩
  · rw [hlo 9 (by decide), q9, hlen]
  · rw [hlo 10 (by decide), q10, hlen]
  · rw [hlen, hlo 8 (by decide)]; exact q8
  · rw [hlo 15 (by decide), q15, hlen]

theorem get_ok (hK0 : 0 ≤ K) (hK : K ≤ 23) (h : Inv K s l) {i : Nat} {v : Int} (hi : l[i]? = some v) : ∃ s', (a0 K).get s i = (v, 0, s') ∧ Inv K s' l := by
  obtain ⟨m, ad, hv, hF⟩ := h
  have hil := (List.getElem?_eq_some_iff.1 hi).1
  obtain ⟨_, h1, h2⟩ := hF.cell hil (hF.small hK).2
  obtain ⟨s1, e1, hv1⟩ := place_ok hK0 hK hv hF hil
  obtain ⟨s2, e2, hv2⟩ := hv1.get (a := ad 1 (i / 8) + ((i % 8 : Nat) : Int)) (by omega) h2
  refine ⟨s2, ?_, ⟨m, ad, hv2.base, hF⟩⟩
  simp only [Ar.get, e1, if_true, e2, hF.leaf i v hi]
theorem get_out (hK0 : 0 ≤ K) (h : Inv K s l) {i : Int} (hi : i < 0 ∨ (l.length : Int) ≤ i) : ∃ s', (a0 K).get s i = (0, 3, s') ∧ Inv K s' l := by
  obtain ⟨m, ad, hv, hF⟩ := h
  obtain ⟨s1, e1, hv1⟩ := place_out hK0 hv hF hi
  refine ⟨s1, ?_, ⟨m, ad, hv1.base, hF⟩⟩
  simp [Ar.get, e1]
theorem set_ok (hK0 : 0 ≤ K) (hK : K ≤ 23) (h : Inv K s l) {i : Nat} {u : Int} (hi : l[i]? = some u) (v : Int) : ∃ s', (a0 K).set s i v = (u, 0, s') ∧ Inv K s' (l.set i v) := by
  obtain ⟨m, ad, hv, hF⟩ := h
  have hil := (List.getElem?_eq_some_iff.1 hi).1
  have hn := (hF.small hK).2
  obtain ⟨_, h1, h2⟩ := hF.cell hil hn
  obtain ⟨s1, e1, hv1⟩ := place_ok hK0 hK hv hF hil
  obtain ⟨s2, e2, hv2⟩ := hv1.get (a := ad 1 (i / 8) + ((i % 8 : Nat) : Int)) (by omega) h2
  obtain ⟨s3, e3, hv3⟩ := hv2.put (a := ad 1 (i / 8) + ((i % 8 : Nat) : Int)) (by omega) h2 v
  refine ⟨s3, ?_, ⟨_, ad, hv3.base, hF.set hil hn v⟩⟩
  simp only [Ar.set, e1, if_true, e2, e3, hF.leaf i u hi]
theorem set_out (hK0 : 0 ≤ K) (h : Inv K s l) {i v : Int} (hi : i < 0 ∨ (l.length : Int) ≤ i) : ∃ s', (a0 K).set s i v = (0, 3, s') ∧ Inv K s' l := by
  obtain ⟨m, ad, hv, hF⟩ := h
  obtain ⟨s1, e1, hv1⟩ := place_out hK0 hv hF hi
  refine ⟨s1, ?_, ⟨m, ad, hv1.base, hF⟩⟩
  simp [Ar.set, e1]
theorem swap_ok (hK0 : 0 ≤ K) (hK : K ≤ 23) (h : Inv K s l) {i j : Nat} {u w : Int} (hi : l[i]? = some u) (hj : l[j]? = some w) : ∃ s', (a0 K).swap s i j = (0, s') ∧ Inv K s' ((l.set i w).set j u) := by
  obtain ⟨m, ad, hv, hF⟩ := h
  have hil := (List.getElem?_eq_some_iff.1 hi).1
  have hjl := (List.getElem?_eq_some_iff.1 hj).1
  have hn := (hF.small hK).2
  obtain ⟨_, h1, h2⟩ := hF.cell hil hn
  obtain ⟨_, h3, h4⟩ := hF.cell hjl hn
  obtain ⟨s1, e1, hv1⟩ := hv.get (a := 9) (by omega) (by omega)
  have e1' : s.get ((a0 K).root + 1) = ((l.length : Int), s1) := by rw [← hF.many]; exact e1
  obtain ⟨s2, e2, hv2⟩ := place_ok hK0 hK hv1 hF hil
  obtain ⟨s3, e3, hv3⟩ := place_ok hK0 hK hv2 hF hjl
  obtain ⟨s4, e4, hv4⟩ := hv3.get (a := ad 1 (i / 8) + ((i % 8 : Nat) : Int)) (by omega) h2
  obtain ⟨s5, e5, hv5⟩ := hv4.get (a := ad 1 (j / 8) + ((j % 8 : Nat) : Int)) (by omega) h4
  obtain ⟨s6, e6, hv6⟩ := hv5.put (a := ad 1 (i / 8) + ((i % 8 : Nat) : Int)) (by omega) h2 w
  obtain ⟨s7, e7, hv7⟩ := hv6.put (a := ad 1 (j / 8) + ((j % 8 : Nat) : Int)) (by omega) h4 u
  have hF2 := hF.set hil hn w
  have hF3 := hF2.set (i := j) (by simpa using hjl) (by simpa using hn) u
  refine ⟨s7, ?_, ⟨_, ad, hv7.base, hF3⟩⟩
  simp only [Ar.swap, e1']
  rw [if_neg (by omega)]
  simp only [e2, if_true, e3, e4, e5, hF.leaf i u hi, hF.leaf j w hj, e6, e7]
theorem swap_out (hK0 : 0 ≤ K) (h : Inv K s l) {i j : Int} (hi : i < 0 ∨ (l.length : Int) ≤ i ∨ j < 0 ∨ (l.length : Int) ≤ j) : ∃ s', (a0 K).swap s i j = (3, s') ∧ Inv K s' l := by
  obtain ⟨m, ad, hv, hF⟩ := h
  obtain ⟨s1, e1, hv1⟩ := hv.get (a := 9) (by omega) (by omega)
  have e1' : s.get ((a0 K).root + 1) = ((l.length : Int), s1) := by rw [← hF.many]; exact e1
  refine ⟨s1, ?_, ⟨m, ad, hv1.base, hF⟩⟩
  simp only [Ar.swap, e1']
  rw [if_pos (by omega)]
theorem len_ok (hK0 : 0 ≤ K) (h : Inv K s l) : ∃ s', s.get ((a0 K).root + 1) = ((l.length : Int), s') ∧ Inv K s' l := by
  obtain ⟨m, ad, hv, hF⟩ := h
  obtain ⟨s1, e1, hv1⟩ := hv.get (a := 9) (by omega) (by omega)
  exact ⟨s1, by rw [← hF.many]; exact e1, ⟨m, ad, hv1.base, hF⟩⟩
theorem nodes_ok (hK0 : 0 ≤ K) (h : Inv K s l) : ∃ s', s.get ((a0 K).root + 7) = ((T l.length : Int), s') ∧ Inv K s' l := by
  obtain ⟨m, ad, hv, hF⟩ := h
  obtain ⟨s1, e1, hv1⟩ := hv.get (a := 15) (by omega) (by omega)
  exact ⟨s1, by rw [← hF.nodes]; exact e1, ⟨m, ad, hv1.base, hF⟩⟩
theorem leftA_ok (hK : K ≤ 23) (h : Inv K s l) : ∃ s', (p0 K).left s = (K - (T l.length : Int), s') ∧ Inv K s' l := by
  obtain ⟨m, ad, hv, hF⟩ := h
  obtain ⟨s1, e1, hv1⟩ := left_ok hK hv hF.pool
  exact ⟨s1, e1, ⟨m, ad, hv1.base, hF⟩⟩

theorem wloop_ok (hK : K ≤ 23) (hF : Full K m l ad) (hn : l.length < 200) {d j c : Nat} (hd : d + 1 ≤ depN l.length) (hj : vF l.length (d + 1) j) (hc : c = min (8 ^ (d + 1)) (l.length - j * 8 ^ (d + 1)))
    {f : Int → Int → Sp → Option (List Int) × Sp}
    (hf : 1 ≤ d → ∀ (cell : Int) (j c : Nat) (s : Sp), 0 ≤ cell → cell < 24 + 8 * K → vF l.length d j → m cell = ad d j → c = min (8 ^ d) (l.length - j * 8 ^ d) → View s0 (24 + 8 * K) s m → ∃ s', f cell c s = (some ((l.drop (j * 8 ^ d)).take (8 ^ d)), s') ∧ View s0 (24 + 8 * K) s' m) :
    ∀ (k i : Nat) (s : Sp), k + i = 8 → View s0 (24 + 8 * K) s m → ∃ s', wloop f (decide (d = 0)) (ad (d + 1) j) c ((8 ^ d : Nat) : Int) k s ((l.drop (j * 8 ^ (d + 1))).take (i * 8 ^ d)) = (some ((l.drop (j * 8 ^ (d + 1))).take (8 ^ (d + 1))), s') ∧ View s0 (24 + 8 * K) s' m
  | 0, i, s, hk, hv => by
    have hi : i = 8 := by omega
    subst hi
    refine ⟨s, ?_, hv⟩
    rw [wloop, Nat.pow_succ, Nat.mul_comm (8 ^ d) 8]
  | k + 1, i, s, hk, hv => by
    have hN := hF.tree.isn _ _ hj
    have hl := isN_lo hN
    have hik : (7 - (k : Int)) = (i : Int) := by omega
    have hmul : (i : Int) * ((8 ^ d : Nat) : Int) = ((i * 8 ^ d : Nat) : Int) := by simp
    have hP : 8 ^ (d + 1) = 8 * 8 ^ d := by rw [Nat.pow_succ, Nat.mul_comm]
    have hY : i * 8 ^ d + 8 ^ d ≤ 8 * 8 ^ d := by rw [← Nat.succ_mul]; exact Nat.mul_le_mul_right _ (by omega)
    have hY1 : (i + 1) * 8 ^ d = i * 8 ^ d + 8 ^ d := Nat.succ_mul _ _
    have hjj : (8 * j + i) * 8 ^ d = j * 8 ^ (d + 1) + i * 8 ^ d := by rw [Nat.add_mul, hP, Nat.mul_comm 8 j, Nat.mul_assoc]
    have hP1 : 1 ≤ 8 ^ d := Nat.one_le_pow _ _ (by decide)
    have hj3 := hj.2.2
    rw [wloop_succ, hik, hmul]
    generalize hX : j * 8 ^ (d + 1) = X at *
    generalize hYY : i * 8 ^ d = Y at *
    by_cases hz : (c : Int) - (Y : Int) ≤ 0
    · rw [if_pos hz]
      have : (l.drop X).take Y = (l.drop X).take ((i + 1) * 8 ^ d) := by
        rw [List.take_of_length_le (by simp; omega), List.take_of_length_le (by simp; omega)]
      rw [this]
      have hg := wloop_ok (c := c) hK hF hn hd hj (by rw [hX]; exact hc) hf k (i + 1) s (by omega) hv
      rw [hX] at hg; exact hg
    · rw [if_neg hz]
      by_cases h0 : d = 0
      · subst h0
        rw [if_pos (by simp)]
        obtain ⟨v, hvv⟩ : ∃ v, l[8 * j + i]? = some v := ⟨_, List.getElem?_eq_getElem (by simp at *; omega)⟩
        have hlf := hF.leaf _ _ hvv
        rw [show (8 * j + i) / 8 = j by omega, show (8 * j + i) % 8 = i by omega] at hlf
        obtain ⟨s1, e1, hv1⟩ := hv.get (a := ad (0 + 1) j + (i : Int)) (by omega) (by omega)
        rw [e1]
        dsimp only
        rw [show m (ad (0 + 1) j + (i : Int)) = v from hlf]
        have hYi : Y = i := by simp at hYY; omega
        have hXj : X = 8 * j := by simp at hX; omega
        have : (l.drop X).take Y ++ [v] = (l.drop X).take ((i + 1) * 8 ^ 0) := by
          rw [hYi, show (i + 1) * 8 ^ 0 = i + 1 by omega, List.take_add_one]
          congr 1
          rw [List.getElem?_drop, hXj, hvv]; rfl
        rw [this]
        have hg := wloop_ok (c := c) hK hF hn hd hj (by rw [hX]; exact hc) hf k (i + 1) s1 (by omega) hv1
        rw [hX] at hg; exact hg
      · rw [if_neg (by simp [h0])]
        have hvj : vF l.length d (8 * j + i) := ⟨by omega, by omega, by omega⟩
        have hlk := hF.tree.link d (8 * j + i) hvj (by omega)
        rw [show (8 * j + i) / 8 = j by omega, show (8 * j + i) % 8 = i by omega] at hlk
        have hcc : (if ((8 ^ d : Nat) : Int) < (c : Int) - (Y : Int) then ((8 ^ d : Nat) : Int) else (c : Int) - (Y : Int)) = ((min (8 ^ d) (l.length - (8 * j + i) * 8 ^ d) : Nat) : Int) := by
          rw [hjj]
          generalize 8 ^ d = P at *
          split <;> omega
        rw [hcc]
        obtain ⟨s1, e1, hv1⟩ := hf (by omega) (ad (d + 1) j + (i : Int)) (8 * j + i) _ s (by omega) (by omega) hvj hlk rfl hv
        rw [e1]
        dsimp only
        have : (l.drop X).take Y ++ (l.drop ((8 * j + i) * 8 ^ d)).take (8 ^ d) = (l.drop X).take ((i + 1) * 8 ^ d) := by
          rw [hY1, List.take_add, List.drop_drop, hjj]
        rw [this]
        have hg := wloop_ok (c := c) hK hF hn hd hj (by rw [hX]; exact hc) hf k (i + 1) s1 (by omega) hv1
        rw [hX] at hg; exact hg
theorem walk_ok (hK : K ≤ 23) (hF : Full K m l ad) (hn : l.length < 200) : ∀ (d : Nat), d + 1 ≤ depN l.length → ∀ (cell : Int) (j c : Nat) (s : Sp), 0 ≤ cell → cell < 24 + 8 * K → vF l.length (d + 1) j → m cell = ad (d + 1) j → c = min (8 ^ (d + 1)) (l.length - j * 8 ^ (d + 1)) →
    View s0 (24 + 8 * K) s m → ∃ s', (a0 K).walk (d + 1) cell c s = (some ((l.drop (j * 8 ^ (d + 1))).take (8 ^ (d + 1))), s') ∧ View s0 (24 + 8 * K) s' m := by
  intro d
  induction d with
  | zero =>
    intro hd cell j c s h0 h1 hj hm hc hv
    have hN := hF.tree.isn _ _ hj
    obtain ⟨s1, e1, hv1⟩ := anode_ok hK hv h0 h1 (by rw [hm]; exact hN)
    obtain ⟨s2, e2, hv2⟩ := wloop_ok (f := (a0 K).walk 0) hK hF hn hd hj hc (fun h => absurd h (by omega)) 8 0 s1 rfl hv1
    refine ⟨s2, ?_, hv2⟩
    rw [Ar.walk, e1, hm]
    dsimp only
    rw [if_pos rfl, pw_nat 0 (by decide), ← e2]
    simp
  | succ d ih =>
    intro hd cell j c s h0 h1 hj hm hc hv
    have hN := hF.tree.isn _ _ hj
    have hd4 := (dep_C _ hn).2.1
    obtain ⟨s1, e1, hv1⟩ := anode_ok hK hv h0 h1 (by rw [hm]; exact hN)
    obtain ⟨s2, e2, hv2⟩ := wloop_ok (f := (a0 K).walk (d + 1)) hK hF hn hd hj hc (fun _ => ih (by omega)) 8 0 s1 rfl hv1
    refine ⟨s2, ?_, hv2⟩
    rw [Ar.walk, e1, hm]
    dsimp only
    rw [if_pos rfl, pw_nat (d + 1) (by omega), ← e2]
    simp
theorem walkAll_ok (hK0 : 0 ≤ K) (hK : K ≤ 23) (h : Inv K s l) : ∃ s', (a0 K).walkAll s = (l, 0, s') ∧ Inv K s' l := by
  obtain ⟨m, ad, hv, hF⟩ := h
  obtain ⟨hT, hn⟩ := hF.small hK
  obtain ⟨w1, w2, w3⟩ := dep_C _ hn
  obtain ⟨s1, e1, hv1⟩ := many_ok2 hK0 hv (by omega) hF.many hF.depth
  unfold Ar.walkAll
  rw [e1]
  dsimp only
  rw [if_pos rfl]
  by_cases h0 : l.length = 0
  · rw [if_pos (by omega), List.length_eq_zero_iff.1 h0]
    exact ⟨s1, rfl, ⟨m, ad, hv1.base, by rw [List.length_eq_zero_iff.1 h0] at hF; exact hF⟩⟩
  · rw [if_neg (by omega), Int.toNat_natCast]
    obtain ⟨d, hd⟩ : ∃ d, depN l.length = d + 1 := ⟨depN l.length - 1, by omega⟩
    have htop := hF.top (by omega)
    obtain ⟨s2, e2, hv2⟩ := walk_ok hK hF hn d (by omega) 8 0 l.length s1 (by omega) (by omega) ⟨by omega, by omega, by omega⟩ (by rw [htop, hd]) (by rw [← hd]; omega) hv1
    rw [← hd] at e2
    have e2' : (a0 K).walk (depN l.length) (a0 K).root l.length s1 = (some ((l.drop (0 * 8 ^ depN l.length)).take (8 ^ depN l.length)), s2) := e2
    rw [e2']
    dsimp only
    rw [Nat.zero_mul, List.drop_zero, List.take_of_length_le w1]
    exact ⟨s2, rfl, ⟨m, ad, hv2.base, hF⟩⟩
end
end Sim

/- The array over an abstract resource: a list. -/
namespace Go.Proofs.YtilnknokgflkjaaDoor
open Go.Vc Sim
set_option maxHeartbeats 4000000
def ArrA (p : Nat) (K : Int) (l : List Int) (c : Nat) : Asn := fun h => ∃ s, (Inv K s l ∧ Sm s (24 * c)) ∧ SpaceA p s h
theorem ar0_ok {K : Int} (hK : 0 ≤ K ∧ K ≤ 23) : (a0 K).Ok := by
  refine ⟨⟨?_, show (0 : Int) ≤ 3 by decide, show (3 : Int) ≤ 4093 by decide, show (1 : Int) ≤ 24 by decide, show (24 : Int) ≤ 4096 by decide, hK.1, ?_⟩, show (0 : Int) ≤ 8 by decide, show (8 : Int) ≤ 4096 by decide⟩
  · show Pl.chk ⟨3, 24, K⟩ = 0
    unfold Pl.chk
    rw [if_neg (by dsimp only; omega), if_neg (by dsimp only; omega), if_neg (by dsimp only; omega)]
  · show K ≤ 128; omega
theorem sm_aget {A : Ar} {s : Sp} {j : Nat} {i : Int} (h : Sm s j) : Sm (A.get s i).2.2 j := by
  unfold Ar.get; split
  · exact sm_get (sm_place h)
  · exact sm_place h
theorem sm_aset {A : Ar} {s : Sp} {j : Nat} {i v : Int} (h : Sm s (j + 1)) : Sm (A.set s i v).2.2 j := by
  unfold Ar.set; split
  · exact sm_put (sm_get (sm_place h))
  · exact (sm_place h).mono (by omega)
theorem sm_aswap {A : Ar} {s : Sp} {j : Nat} {i k : Int} (h : Sm s (j + 2)) : Sm (A.swap s i k).2 j := by
  unfold Ar.swap; dsimp only; split
  · exact (sm_get h).mono (by omega)
  · split
    · split
      · exact sm_put (sm_put (sm_get (sm_get (sm_place (sm_place (sm_get h))))))
      · exact (sm_place (sm_place (sm_get h))).mono (by omega)
    · exact (sm_place (sm_get h)).mono (by omega)
set_option linter.unusedSectionVars false
section
variable (w0 : World) (hw : PowOk w0) (p : Nat) {K : Int} (hK : 0 ≤ K ∧ K ≤ 23) (l : List Int) (c : Nat)
include hw hK
theorem pushA (v : Int) (hT : (T (l.length + 1) : Int) ≤ K) : FnE PP w0 [] 11 [arrV (a0 K), spP p, .int .i64 v] [ArrA p K l (c + 1)]
    (.tuple #[.int .i64 l.length, .int .i64 0]) [ArrA p K (l ++ [v]) c] :=
  Fn.lift (SpaceA p) (fun s => Inv K s l ∧ Sm s (24 * (c + 1))) (fun s => (.tuple #[.int .i64 ((a0 K).push s v).1, .int .i64 ((a0 K).push s v).2.1], ((a0 K).push s v).2.2)) (fun s => Inv K s (l ++ [v]) ∧ Sm s (24 * c))
    en11 (fun _ h => h) (fun s _ h1 h2 => ⟨s, h1, h2⟩) (fun s hs => push_spec w0 hw p (a0 K) (ar0_ok hK) s v (hs.2.mono (by omega))) fun s hs => by
    have hsm := sm_push (A := a0 K) (v := v) (j := 24 * c) hs.2
    rcases push_ok hK.1 hK.2 hs.1 v with ⟨s', e, h1, h2⟩ | ⟨s', e, h1, h2⟩
    · rw [e] at hsm ⊢; exact ⟨rfl, h1, hsm⟩
    · omega
theorem pushA_full (v : Int) (hT : K < (T (l.length + 1) : Int)) : FnE PP w0 [] 11 [arrV (a0 K), spP p, .int .i64 v] [ArrA p K l (c + 1)]
    (.tuple #[.int .i64 0, .int .i64 9]) [ArrA p K l c] :=
  Fn.lift (SpaceA p) (fun s => Inv K s l ∧ Sm s (24 * (c + 1))) (fun s => (.tuple #[.int .i64 ((a0 K).push s v).1, .int .i64 ((a0 K).push s v).2.1], ((a0 K).push s v).2.2)) (fun s => Inv K s l ∧ Sm s (24 * c))
    en11 (fun _ h => h) (fun s _ h1 h2 => ⟨s, h1, h2⟩) (fun s hs => push_spec w0 hw p (a0 K) (ar0_ok hK) s v (hs.2.mono (by omega))) fun s hs => by
    have hsm := sm_push (A := a0 K) (v := v) (j := 24 * c) hs.2
    rcases push_ok hK.1 hK.2 hs.1 v with ⟨s', e, h1, h2⟩ | ⟨s', e, h1, h2⟩
    · omega
    · rw [e] at hsm ⊢; exact ⟨rfl, h1, hsm⟩
theorem popA (v : Int) : FnE PP w0 [] 12 [arrV (a0 K), spP p] [ArrA p K (l ++ [v]) (c + 1)] (.tuple #[.int .i64 v, .int .i64 0]) [ArrA p K l c] :=
  Fn.lift (SpaceA p) (fun s => Inv K s (l ++ [v]) ∧ Sm s (24 * (c + 1))) (fun s => (.tuple #[.int .i64 ((a0 K).pop s).1, .int .i64 ((a0 K).pop s).2.1], ((a0 K).pop s).2.2)) (fun s => Inv K s l ∧ Sm s (24 * c))
    en12 (fun _ h => h) (fun s _ h1 h2 => ⟨s, h1, h2⟩) (fun s hs => pop_spec w0 hw p (a0 K) (ar0_ok hK) s (hs.2.mono (by omega))) fun s hs => by
    have hsm := sm_pop (A := a0 K) (j := 24 * c) hs.2
    obtain ⟨s', e, h1⟩ := pop_ok hK.1 hK.2 hs.1
    rw [e] at hsm ⊢; exact ⟨rfl, h1, hsm⟩
theorem popA_none : FnE PP w0 [] 12 [arrV (a0 K), spP p] [ArrA p K [] (c + 1)] (.tuple #[.int .i64 0, .int .i64 8]) [ArrA p K [] c] :=
  Fn.lift (SpaceA p) (fun s => Inv K s [] ∧ Sm s (24 * (c + 1))) (fun s => (.tuple #[.int .i64 ((a0 K).pop s).1, .int .i64 ((a0 K).pop s).2.1], ((a0 K).pop s).2.2)) (fun s => Inv K s [] ∧ Sm s (24 * c))
    en12 (fun _ h => h) (fun s _ h1 h2 => ⟨s, h1, h2⟩) (fun s hs => pop_spec w0 hw p (a0 K) (ar0_ok hK) s (hs.2.mono (by omega))) fun s hs => by
    have hsm := sm_pop (A := a0 K) (j := 24 * c) hs.2
    obtain ⟨s', e, h1⟩ := pop_none hK.1 hs.1
    rw [e] at hsm ⊢; exact ⟨rfl, h1, hsm⟩
theorem getA {i : Nat} {v : Int} (hi : l[i]? = some v) (iI : Int) (hI : iI = i) : FnE PP w0 [] 18 [arrV (a0 K), spP p, .int .i64 iI] [ArrA p K l c] (.tuple #[.int .i64 v, .int .i64 0]) [ArrA p K l c] :=
  Fn.lift (SpaceA p) (fun s => Inv K s l ∧ Sm s (24 * c)) (fun s => (.tuple #[.int .i64 ((a0 K).get s iI).1, .int .i64 ((a0 K).get s iI).2.1], ((a0 K).get s iI).2.2)) (fun s => Inv K s l ∧ Sm s (24 * c))
    en18 (fun _ h => h) (fun s _ h1 h2 => ⟨s, h1, h2⟩) (fun s hs => aget_spec w0 hw p (a0 K) (ar0_ok hK) s iI (hs.2.mono (by omega))) fun s hs => by
    have hsm : Sm ((a0 K).get s iI).2.2 (24 * c) := sm_aget hs.2
    obtain ⟨s', e, h1⟩ := get_ok hK.1 hK.2 hs.1 hi
    subst hI
    rw [e] at hsm ⊢; exact ⟨rfl, h1, hsm⟩
theorem getA_out {i : Int} (hi : i < 0 ∨ (l.length : Int) ≤ i) : FnE PP w0 [] 18 [arrV (a0 K), spP p, .int .i64 i] [ArrA p K l c] (.tuple #[.int .i64 0, .int .i64 3]) [ArrA p K l c] :=
  Fn.lift (SpaceA p) (fun s => Inv K s l ∧ Sm s (24 * c)) (fun s => (.tuple #[.int .i64 ((a0 K).get s i).1, .int .i64 ((a0 K).get s i).2.1], ((a0 K).get s i).2.2)) (fun s => Inv K s l ∧ Sm s (24 * c))
    en18 (fun _ h => h) (fun s _ h1 h2 => ⟨s, h1, h2⟩) (fun s hs => aget_spec w0 hw p (a0 K) (ar0_ok hK) s i (hs.2.mono (by omega))) fun s hs => by
    have hsm : Sm ((a0 K).get s i).2.2 (24 * c) := sm_aget hs.2
    obtain ⟨s', e, h1⟩ := get_out hK.1 hs.1 hi
    rw [e] at hsm ⊢; exact ⟨rfl, h1, hsm⟩
theorem setA {i : Nat} {u : Int} (v : Int) (hi : l[i]? = some u) (iI : Int) (hI : iI = i) : FnE PP w0 [] 20 [arrV (a0 K), spP p, .int .i64 iI, .int .i64 v] [ArrA p K l (c + 1)] (.tuple #[.int .i64 u, .int .i64 0]) [ArrA p K (l.set i v) c] :=
  Fn.lift (SpaceA p) (fun s => Inv K s l ∧ Sm s (24 * (c + 1))) (fun s => (.tuple #[.int .i64 ((a0 K).set s iI v).1, .int .i64 ((a0 K).set s iI v).2.1], ((a0 K).set s iI v).2.2)) (fun s => Inv K s (l.set i v) ∧ Sm s (24 * c))
    en20 (fun _ h => h) (fun s _ h1 h2 => ⟨s, h1, h2⟩) (fun s hs => aset_spec w0 hw p (a0 K) (ar0_ok hK) s iI v (hs.2.mono (by omega))) fun s hs => by
    have hsm : Sm ((a0 K).set s iI v).2.2 (24 * c) := sm_aset (hs.2.mono (by omega))
    obtain ⟨s', e, h1⟩ := set_ok hK.1 hK.2 hs.1 hi v
    subst hI
    rw [e] at hsm ⊢; exact ⟨rfl, h1, hsm⟩
theorem setA_out {i : Int} (v : Int) (hi : i < 0 ∨ (l.length : Int) ≤ i) : FnE PP w0 [] 20 [arrV (a0 K), spP p, .int .i64 i, .int .i64 v] [ArrA p K l (c + 1)] (.tuple #[.int .i64 0, .int .i64 3]) [ArrA p K l c] :=
  Fn.lift (SpaceA p) (fun s => Inv K s l ∧ Sm s (24 * (c + 1))) (fun s => (.tuple #[.int .i64 ((a0 K).set s i v).1, .int .i64 ((a0 K).set s i v).2.1], ((a0 K).set s i v).2.2)) (fun s => Inv K s l ∧ Sm s (24 * c))
    en20 (fun _ h => h) (fun s _ h1 h2 => ⟨s, h1, h2⟩) (fun s hs => aset_spec w0 hw p (a0 K) (ar0_ok hK) s i v (hs.2.mono (by omega))) fun s hs => by
    have hsm : Sm ((a0 K).set s i v).2.2 (24 * c) := sm_aset (hs.2.mono (by omega))
    obtain ⟨s', e, h1⟩ := set_out hK.1 hs.1 (v := v) hi
    rw [e] at hsm ⊢; exact ⟨rfl, h1, hsm⟩
theorem swapA {i j : Nat} {u v : Int} (hi : l[i]? = some u) (hj : l[j]? = some v) (iI jI : Int) (hI : iI = i) (hJ : jI = j) : FnE PP w0 [] 17 [arrV (a0 K), spP p, .int .i64 iI, .int .i64 jI] [ArrA p K l (c + 1)] (.int .i64 0) [ArrA p K ((l.set i v).set j u) c] :=
  Fn.lift (SpaceA p) (fun s => Inv K s l ∧ Sm s (24 * (c + 1))) (fun s => (.int .i64 ((a0 K).swap s iI jI).1, ((a0 K).swap s iI jI).2)) (fun s => Inv K s ((l.set i v).set j u) ∧ Sm s (24 * c))
    en17 (fun _ h => h) (fun s _ h1 h2 => ⟨s, h1, h2⟩) (fun s hs => aswap_spec w0 hw p (a0 K) (ar0_ok hK) s iI jI (hs.2.mono (by omega))) fun s hs => by
    have hsm : Sm ((a0 K).swap s iI jI).2 (24 * c) := sm_aswap (hs.2.mono (by omega))
    obtain ⟨s', e, h1⟩ := swap_ok hK.1 hK.2 hs.1 hi hj
    subst hI; subst hJ
    rw [e] at hsm ⊢; exact ⟨rfl, h1, hsm⟩
theorem swapA_out {i j : Int} (hi : i < 0 ∨ (l.length : Int) ≤ i ∨ j < 0 ∨ (l.length : Int) ≤ j) : FnE PP w0 [] 17 [arrV (a0 K), spP p, .int .i64 i, .int .i64 j] [ArrA p K l (c + 1)] (.int .i64 3) [ArrA p K l c] :=
  Fn.lift (SpaceA p) (fun s => Inv K s l ∧ Sm s (24 * (c + 1))) (fun s => (.int .i64 ((a0 K).swap s i j).1, ((a0 K).swap s i j).2)) (fun s => Inv K s l ∧ Sm s (24 * c))
    en17 (fun _ h => h) (fun s _ h1 h2 => ⟨s, h1, h2⟩) (fun s hs => aswap_spec w0 hw p (a0 K) (ar0_ok hK) s i j (hs.2.mono (by omega))) fun s hs => by
    have hsm : Sm ((a0 K).swap s i j).2 (24 * c) := sm_aswap (hs.2.mono (by omega))
    obtain ⟨s', e, h1⟩ := swap_out hK.1 hs.1 hi
    rw [e] at hsm ⊢; exact ⟨rfl, h1, hsm⟩
theorem lenA : FnE PP w0 [] 14 [arrV (a0 K), spP p] [ArrA p K l c] (.int .i64 l.length) [ArrA p K l c] :=
  Fn.lift (SpaceA p) (fun s => Inv K s l ∧ Sm s (24 * c)) (fun s => (.int .i64 (s.get ((a0 K).root + 1)).1, (s.get ((a0 K).root + 1)).2)) (fun s => Inv K s l ∧ Sm s (24 * c))
    en14 (fun _ h => h) (fun s _ h1 h2 => ⟨s, h1, h2⟩) (fun s hs => len_spec w0 p (a0 K) (ar0_ok hK) s (hs.2.mono (by omega))) fun s hs => by
    have hsm := sm_get (a := (a0 K).root + 1) hs.2
    obtain ⟨s', e, h1⟩ := len_ok hK.1 hs.1
    rw [e] at hsm ⊢; exact ⟨rfl, h1, hsm⟩
theorem nodesA (aI : Int) (ha : aI = 15) : FnE PP w0 [] 28 [spP p, .int .i64 aI] [ArrA p K l c] (.int .i64 (T l.length)) [ArrA p K l c] :=
  Fn.lift (SpaceA p) (fun s => Inv K s l ∧ Sm s (24 * c)) (fun s => (.int .i64 (s.get ((a0 K).root + 7)).1, (s.get ((a0 K).root + 7)).2)) (fun s => Inv K s l ∧ Sm s (24 * c))
    en28 (fun _ h => h) (fun s _ h1 h2 => ⟨s, h1, h2⟩) (fun s hs => by subst ha; exact getS w0 p s _ (hs.2.mono (by omega))) fun s hs => by
    have hsm := sm_get (a := (a0 K).root + 7) hs.2
    obtain ⟨s', e, h1⟩ := nodes_ok hK.1 hs.1
    rw [e] at hsm ⊢; exact ⟨rfl, h1, hsm⟩
theorem leftA : FnE PP w0 [] 13 [poolV (a0 K).pool, spP p] [ArrA p K l c] (.int .i64 (K - (T l.length : Int))) [ArrA p K l c] :=
  Fn.lift (SpaceA p) (fun s => Inv K s l ∧ Sm s (24 * c)) (fun s => (.int .i64 ((p0 K).left s).1, ((p0 K).left s).2)) (fun s => Inv K s l ∧ Sm s (24 * c))
    en13 (fun _ h => h) (fun s _ h1 h2 => ⟨s, h1, h2⟩) (fun s hs => left_spec w0 p (p0 K) (ar0_ok hK).1 s (hs.2.mono (by omega))) fun s hs => by
    have hsm := sm_left (P := p0 K) hs.2
    obtain ⟨s', e, h1⟩ := leftA_ok hK.2 hs.1
    rw [e] at hsm ⊢; exact ⟨rfl, h1, hsm⟩
theorem walkA : Vc.Fn PP w0 [] 19 [arrV (a0 K), spP p] [ArrA p K l c] fun v Γ => ∃ a cap, v = .tuple #[.slice a l.length cap, .int .i64 0] ∧ Γ = [ArrA p K l c, SlA 2 1 a l.length cap (intL l)] :=
  Fn.pre (SpaceA p) (fun s => Inv K s l ∧ Sm s (24 * c)) en19 (fun _ h => h) fun s hs => (walkAll_spec w0 hw p (a0 K) (ar0_ok hK) s (hs.2.mono (by omega))).post fun v Γ' ⟨a, cap, h1, h2⟩ => by
    have hsm := sm_walkAll (A := a0 K) hs.2
    obtain ⟨s', e, h3⟩ := walkAll_ok hK.1 hK.2 hs.1
    rw [e] at hsm h1 h2
    refine ⟨_, ⟨a, cap, h1, rfl⟩, fun h hh => ?_⟩
    subst h2
    obtain ⟨g1, g2, hd, rfl, hA, hr⟩ := hh
    exact ⟨g1, g2, hd, rfl, ⟨s', ⟨h3, hsm⟩, hA⟩, hr⟩
end
end Go.Proofs.YtilnknokgflkjaaDoor

/- The beginning: start, Known, New. -/
namespace Go.Proofs.YtilnknokgflkjaaDoor
open Go.Vc Sim
set_option maxHeartbeats 4000000
theorem zero_lookW {N : Nat} {a : Int} : lookW (wk 0 (List.replicate N 0)) a = if 0 ≤ a ∧ a < N then some ⟨0, 0, 0⟩ else none := by
  rw [lookW_wk]
  simp only [List.length_replicate, Int.natCast_zero, Int.zero_add, Int.sub_zero]
  by_cases h : 0 ≤ a ∧ a < N
  · rw [if_pos h, if_pos h, List.getElem?_replicate, if_pos (by omega)]; rfl
  · rw [if_neg h, if_neg h]
theorem inv_start {K : Int} (hK : 0 ≤ K) {kn : List (Int × Wd)} (h : ∀ a, lookW kn a = lookW (wk 0 (List.replicate (24 + 8 * K).toNat 0)) a) : Inv K ⟨kn, [], [], 0, false⟩ [] := by
  have hN : ((24 + 8 * K).toNat : Int) = 24 + 8 * K := by omega
  refine ⟨fun _ => 0, fun _ _ => 0, ⟨rfl, rfl, fun a h0 h1 => ?_, ⟨[], rfl⟩, fun a h0 h1 => ?_⟩, ⟨⟨?_, ?_, ?_, ?_, ?_⟩, ?_, ?_, rfl, rfl, fun h => absurd h (by simp), rfl⟩⟩
  · refine ⟨⟨0, 0, 0⟩, ?_⟩
    show lookW kn a = _
    rw [h, zero_lookW, if_pos (by omega)]
  · simp only [Sp.value, lastV]
    rw [h, zero_lookW, if_pos (by omega)]
  · rintro d j ⟨_, _, h3⟩; simp at h3
  · rintro d j ⟨_, _, h3⟩; simp at h3
  · rintro d j _ _ ⟨_, _, h3⟩; simp at h3
  · rintro d j ⟨_, _, h3⟩; simp at h3
  · rintro d j ⟨_, _, h3⟩; simp at h3
  · intro i v hi; simp at hi
  · refine ⟨[], 0, Int.le_refl _, hK, rfl, rfl, rfl, List.nodup_nil, by simp, fun b => ?_, rfl, by decide⟩
    constructor
    · rintro ⟨d, j, ⟨_, _, h3⟩, _⟩; simp at h3
    · rintro ⟨⟨k, h0, h1, _⟩, _⟩; omega
def zeros (K : Int) : List Int := List.replicate (24 + 8 * K).toNat 0
theorem newA (w0 : World) (kb : Nat) {K : Int} (hK : 0 ≤ K ∧ K ≤ 23) (c : Nat) (hc : c ≤ 10000000000) : Vc.Fn PP w0 [] 9 [.map (some kb)] [pt kb (mapI (knM (wk 0 (zeros K))))]
    fun v Γ => ∃ p, v = spP p ∧ Γ = [ArrA p K [] c] := by
  refine (new_spec w0 kb (wk 0 (zeros K)) fun q a w hq => ?_).post ?_
  · rw [wk_get] at hq
    obtain ⟨v, hv, h2⟩ : ∃ v, (zeros K)[q]? = some v ∧ (((0 + q : Nat) : Int), (⟨v, 0, 0⟩ : Wd)) = (a, w) := by
      cases h : (zeros K)[q]? with
      | none => rw [h] at hq; cases hq
      | some v => rw [h] at hq; exact ⟨v, rfl, Option.some.inj hq⟩
    have hql := (List.getElem?_eq_some_iff.1 hv).1
    cases h2
    refine ⟨?_, rfl⟩
    rw [lookW_wk, if_pos (by omega)]
    simp only [Int.natCast_zero, Int.sub_zero, Nat.zero_add, Int.toNat_natCast, hv]; rfl
  · rintro v Γ ⟨p, kn', rfl, rfl, h⟩
    refine ⟨_, ⟨p, rfl, rfl⟩, fun g hg => ?_⟩
    refine Stars.one.2 ⟨_, ⟨inv_start hK.1 h, ?_⟩, Stars.one.1 hg⟩
    show 0 + 24 * c ≤ 1099511627776
    omega
theorem startA (w0 : World) (m : Int) (hm : 0 ≤ m ∧ m ≤ 255) (K : Int) (hK : K = m % 24) :
    Vc.Fn PP w0 [] 8 [.int .u8 m] [] (fun v Γ => ∃ vb, v = .tuple #[.agg #[.int .i64 3, .int .i64 24, .int .i64 K, .int .i64 8], .agg #[.slice (some ⟨vb, 0, none⟩) (zeros K).length (zeros K).length]] ∧
      Γ = [pt vb (.cells (List.toArray (intL' (zeros K) ++ [])) 2 (0, 0))]) := by
  subst hK
  refine (start_spec w0 m hm).post ?_
  rintro v Γ ⟨vb, rfl, rfl⟩
  refine ⟨_, ⟨vb, ?_, rfl⟩, fun g hg => ?_⟩
  · simp only [zeros, List.length_replicate]; rfl
  · rw [show intL' (zeros (m % 24)) ++ [] = List.replicate (24 + 8 * (m % 24)).toNat (.int .i64 0) by simp [zeros, intL', List.map_replicate]]
    exact hg
theorem knownA (w0 : World) (vb cap : Nat) (K : Int) (hK : 0 ≤ K ∧ K ≤ 23) (T : TypeId) (fr : Nat × Nat) :
    Vc.Fn PP w0 [(vb, .cells (List.toArray (intL' (zeros K) ++ [])) T fr)] 10 [.agg #[.slice (some ⟨vb, 0, none⟩) (zeros K).length cap]] []
      (fun v Γ => ∃ mb, v = .map (some mb) ∧ Γ = [pt mb (mapI (knM (wk 0 (zeros K))))]) :=
  known_spec w0 vb cap (zeros K) [] T fr (by simp [zeros]; omega)

theorem awake_T : ∀ k, k < 9 → T (k + 1) ≤ 5 := by decide
def upTo (k : Nat) : List Int := (List.range k).map fun (i : Nat) => (i : Int)
theorem upTo_len (k : Nat) : (upTo k).length = k := by simp [upTo]
theorem upTo_succ (k : Nat) : upTo (k + 1) = upTo k ++ [(k : Int)] := by simp [upTo, List.range_succ]

theorem awake_spec (w0 : World) (hw : PowOk w0) : FnE PP w0 [] 7 [] [] (.bool true) [] := by
  refine fn_of_run en7 fn7 rfl rfl rfl ?_
  repeat (first | refine zck ?_ | refine zcl ?_ | refine zcm ?_ | refine zcn ?_)
  first | refine zcp (by kernel_rfl) ?_ | refine zcq PP_mixed (by kernel_rfl) (by kernel_rfl) ?_
  repeat' (refine zap rfl ?_; first | ((with_reducible refine zct ?_); first | refine zaj rfl ?_ | refine zak rfl ?_ | refine zal rfl ?_ | refine zam rfl rfl (fun _ => ?_) (fun _ => ?_)) | ((with_reducible refine zcu ?_); refine zan rfl ?_) | ((with_reducible refine zcv ?_); refine zan rfl ?_) | ((with_reducible refine zcw ?_); first | refine zaa 0 rfl rfl rfl ?_ | refine zaa 1 rfl rfl rfl ?_ | refine zaa 2 rfl rfl rfl ?_ | refine zaa 3 rfl rfl rfl ?_ | refine zaa 4 rfl rfl rfl ?_ | refine zaa 5 rfl rfl rfl ?_ | refine zab 0 rfl rfl rfl ?_ | refine zab 1 rfl rfl rfl ?_ | refine zab 2 rfl rfl rfl ?_ | refine zab 3 rfl rfl rfl ?_ | refine zab 4 rfl rfl rfl ?_ | refine zab 5 rfl rfl rfl ?_) | ((with_reducible refine zcy ?_); refine zao rfl ?_) | ((with_reducible refine zcz ?_); refine zan rfl ?_) | ((with_reducible refine zda ?_); first | refine zau rfl rfl (by omega) ?_ | refine zav rfl rfl (by omega) ?_ | refine zbo rfl rfl ?_ | refine zbp rfl rfl ?_ | refine zbq rfl rfl ?_ | refine zaz rfl rfl ?_ | refine zbb rfl rfl ?_ | refine zba rfl rfl ?_) | ((with_reducible refine zdc ?_); first | refine zbu rfl ?_ | refine zbv rfl ?_ | refine zbw rfl rfl rfl ?_) | ((with_reducible refine zdd ?_); first | refine zae 0 rfl rfl rfl rfl rfl rfl rfl ?_ | refine zae 1 rfl rfl rfl rfl rfl rfl rfl ?_ | refine zae 2 rfl rfl rfl rfl rfl rfl rfl ?_ | refine zae 3 rfl rfl rfl rfl rfl rfl rfl ?_ | refine zae 4 rfl rfl rfl rfl rfl rfl rfl ?_ | refine zae 5 rfl rfl rfl rfl rfl rfl rfl ?_) | ((with_reducible refine zdh ?_); refine zar (fun nb => ?_)))
  all_goals refine zch ?_
  all_goals repeat (first | refine zck ?_ | refine zcl ?_ | refine zcm ?_ | refine zcn ?_)
  repeat (first | refine zck ?_ | refine zcl ?_ | refine zcm ?_ | refine zcn ?_)
  first | refine zcp (by kernel_rfl) ?_ | refine zcq PP_mixed (by kernel_rfl) (by kernel_rfl) ?_
  repeat' (refine zap rfl ?_; first | (refine zai [] (startA w0 5 (by decide) 5 rfl) rfl rfl rfl sub_nil ?_; rintro v Γ' ⟨vb, rfl, rfl⟩) | ((with_reducible refine zct ?_); first | refine zaj rfl ?_ | refine zak rfl ?_ | refine zal rfl ?_ | refine zam rfl rfl (fun _ => ?_) (fun _ => ?_)) | ((with_reducible refine zcu ?_); refine zan rfl ?_) | ((with_reducible refine zcv ?_); refine zan rfl ?_) | ((with_reducible refine zcw ?_); first | refine zaa 0 rfl rfl rfl ?_ | refine zaa 1 rfl rfl rfl ?_ | refine zaa 2 rfl rfl rfl ?_ | refine zaa 3 rfl rfl rfl ?_ | refine zaa 4 rfl rfl rfl ?_ | refine zaa 5 rfl rfl rfl ?_ | refine zab 0 rfl rfl rfl ?_ | refine zab 1 rfl rfl rfl ?_ | refine zab 2 rfl rfl rfl ?_ | refine zab 3 rfl rfl rfl ?_ | refine zab 4 rfl rfl rfl ?_ | refine zab 5 rfl rfl rfl ?_) | ((with_reducible refine zcy ?_); refine zao rfl ?_) | ((with_reducible refine zcz ?_); refine zan rfl ?_) | ((with_reducible refine zda ?_); first | refine zau rfl rfl (by omega) ?_ | refine zav rfl rfl (by omega) ?_ | refine zbo rfl rfl ?_ | refine zbp rfl rfl ?_ | refine zbq rfl rfl ?_ | refine zaz rfl rfl ?_ | refine zbb rfl rfl ?_ | refine zba rfl rfl ?_) | ((with_reducible refine zdc ?_); first | refine zbu rfl ?_ | refine zbv rfl ?_ | refine zbw rfl rfl rfl ?_) | ((with_reducible refine zdd ?_); first | refine zae 0 rfl rfl rfl rfl rfl rfl rfl ?_ | refine zae 1 rfl rfl rfl rfl rfl rfl rfl ?_ | refine zae 2 rfl rfl rfl rfl rfl rfl rfl ?_ | refine zae 3 rfl rfl rfl rfl rfl rfl rfl ?_ | refine zae 4 rfl rfl rfl rfl rfl rfl rfl ?_ | refine zae 5 rfl rfl rfl rfl rfl rfl rfl ?_) | ((with_reducible refine zdh ?_); refine zar (fun nb => ?_)))
  all_goals refine zch ?_
  all_goals repeat (first | refine zck ?_ | refine zcl ?_ | refine zcm ?_ | refine zcn ?_)
  rename_i b1
  revert nb; intro b2
  refine run_share [0] rfl ?_
  refine run_share [0] rfl ?_
  refine run_share [0] rfl ?_
  repeat (first | refine zck ?_ | refine zcl ?_ | refine zcm ?_ | refine zcn ?_)
  first | refine zcp (by kernel_rfl) ?_ | refine zcq PP_mixed (by kernel_rfl) (by kernel_rfl) ?_
  repeat' (refine zap rfl ?_; first | (refine zai [] (knownA w0 vb _ 5 (by decide) 2 (0, 0)) rfl rfl rfl (by intro p hp; simp at hp; subst hp; simp) ?_; rintro v Γ' ⟨mb, rfl, rfl⟩) | (refine zai [0] (newA w0 mb (K := 5) (by decide) 200 (by decide)) rfl rfl rfl sub_nil ?_; rintro v Γ' ⟨p, rfl, rfl⟩) | ((with_reducible refine zct ?_); first | refine zaj rfl ?_ | refine zak rfl ?_ | refine zal rfl ?_ | refine zam rfl rfl (fun _ => ?_) (fun _ => ?_)) | ((with_reducible refine zcu ?_); refine zan rfl ?_) | ((with_reducible refine zcv ?_); refine zan rfl ?_) | ((with_reducible refine zcw ?_); first | refine zaa 0 rfl rfl rfl ?_ | refine zaa 1 rfl rfl rfl ?_ | refine zaa 2 rfl rfl rfl ?_ | refine zaa 3 rfl rfl rfl ?_ | refine zaa 4 rfl rfl rfl ?_ | refine zaa 5 rfl rfl rfl ?_ | refine zab 0 rfl rfl rfl ?_ | refine zab 1 rfl rfl rfl ?_ | refine zab 2 rfl rfl rfl ?_ | refine zab 3 rfl rfl rfl ?_ | refine zab 4 rfl rfl rfl ?_ | refine zab 5 rfl rfl rfl ?_) | ((with_reducible refine zcy ?_); refine zao rfl ?_) | ((with_reducible refine zcz ?_); refine zan rfl ?_) | ((with_reducible refine zda ?_); first | refine zau rfl rfl (by omega) ?_ | refine zav rfl rfl (by omega) ?_ | refine zbo rfl rfl ?_ | refine zbp rfl rfl ?_ | refine zbq rfl rfl ?_ | refine zaz rfl rfl ?_ | refine zbb rfl rfl ?_ | refine zba rfl rfl ?_) | ((with_reducible refine zdc ?_); first | refine zbu rfl ?_ | refine zbv rfl ?_ | refine zbw rfl rfl rfl ?_) | ((with_reducible refine zdd ?_); first | refine zae 0 rfl rfl rfl rfl rfl rfl rfl ?_ | refine zae 1 rfl rfl rfl rfl rfl rfl rfl ?_ | refine zae 2 rfl rfl rfl rfl rfl rfl rfl ?_ | refine zae 3 rfl rfl rfl rfl rfl rfl rfl ?_ | refine zae 4 rfl rfl rfl rfl rfl rfl rfl ?_ | refine zae 5 rfl rfl rfl rfl rfl rfl rfl ?_) | ((with_reducible refine zdh ?_); refine zar (fun nb => ?_)))
  all_goals refine zch ?_
  all_goals repeat (first | refine zck ?_ | refine zcl ?_ | refine zcm ?_ | refine zcn ?_)
  repeat (first | refine zck ?_ | refine zcl ?_ | refine zcm ?_ | refine zcn ?_)
  first | refine zcp (by kernel_rfl) ?_ | refine zcq PP_mixed (by kernel_rfl) (by kernel_rfl) ?_
  repeat' (refine zap rfl ?_; first | ((with_reducible refine zct ?_); first | refine zaj rfl ?_ | refine zak rfl ?_ | refine zal rfl ?_ | refine zam rfl rfl (fun _ => ?_) (fun _ => ?_)) | ((with_reducible refine zcu ?_); refine zan rfl ?_) | ((with_reducible refine zcv ?_); refine zan rfl ?_) | ((with_reducible refine zcw ?_); first | refine zaa 0 rfl rfl rfl ?_ | refine zaa 1 rfl rfl rfl ?_ | refine zaa 2 rfl rfl rfl ?_ | refine zaa 3 rfl rfl rfl ?_ | refine zaa 4 rfl rfl rfl ?_ | refine zaa 5 rfl rfl rfl ?_ | refine zab 0 rfl rfl rfl ?_ | refine zab 1 rfl rfl rfl ?_ | refine zab 2 rfl rfl rfl ?_ | refine zab 3 rfl rfl rfl ?_ | refine zab 4 rfl rfl rfl ?_ | refine zab 5 rfl rfl rfl ?_) | ((with_reducible refine zcy ?_); refine zao rfl ?_) | ((with_reducible refine zcz ?_); refine zan rfl ?_) | ((with_reducible refine zda ?_); first | refine zau rfl rfl (by omega) ?_ | refine zav rfl rfl (by omega) ?_ | refine zbo rfl rfl ?_ | refine zbp rfl rfl ?_ | refine zbq rfl rfl ?_ | refine zaz rfl rfl ?_ | refine zbb rfl rfl ?_ | refine zba rfl rfl ?_) | ((with_reducible refine zdc ?_); first | refine zbu rfl ?_ | refine zbv rfl ?_ | refine zbw rfl rfl rfl ?_) | ((with_reducible refine zdd ?_); first | refine zae 0 rfl rfl rfl rfl rfl rfl rfl ?_ | refine zae 1 rfl rfl rfl rfl rfl rfl rfl ?_ | refine zae 2 rfl rfl rfl rfl rfl rfl rfl ?_ | refine zae 3 rfl rfl rfl rfl rfl rfl rfl ?_ | refine zae 4 rfl rfl rfl rfl rfl rfl rfl ?_ | refine zae 5 rfl rfl rfl rfl rfl rfl rfl ?_) | ((with_reducible refine zdh ?_); refine zar (fun nb => ?_)))
  all_goals refine zch ?_
  all_goals repeat (first | refine zck ?_ | refine zcl ?_ | refine zcm ?_ | refine zcn ?_)
  refine run_slots [(1, .pointer (some ⟨b1, 0, none⟩)), (3, spP p), (4, .int .i64 0)] ⟨rfl, rfl, rfl, trivial⟩ (fun junk => ?_)
  refine run_loop (S := Nat) (fun k => [(1, .pointer (some ⟨b1, 0, none⟩)), (3, spP p), (4, .int .i64 (k : Int))])
    (fun k Γ => Γ = [ArrA p 5 (upTo k) (200 - k)] ∧ k ≤ 9) (fun k => 9 - k) 0 ⟨rfl, rfl, rfl, trivial⟩ ⟨rfl, Nat.zero_le _⟩ ?_
  rintro k Γ junk ⟨rfl, hk⟩
  by_cases hlt : k < 9
  · have hP := pushA w0 hw p (K := 5) (by decide) (upTo k) (200 - (k + 1)) k (by rw [upTo_len]; exact_mod_cast awake_T k hlt)
    rw [upTo_len, ← upTo_succ, show 200 - (k + 1) + 1 = 200 - k by omega] at hP
    repeat' (first | refine zck ?_ | refine zcp (by kernel_rfl) ?_ | refine zcq PP_mixed (by kernel_rfl) (by kernel_rfl) ?_ | refine zcm ?_ | refine zcl ?_ | refine zcn ?_ | refine zco ?_ | refine zcs rfl ?_ | (refine zap rfl ?_; first | ((with_reducible refine zct ?_); first | refine zaj rfl ?_ | refine zak rfl ?_ | refine zal rfl ?_ | refine zam rfl rfl (fun _ => ?_) (fun _ => ?_)) | ((with_reducible refine zcu ?_); refine zan rfl ?_) | ((with_reducible refine zcv ?_); refine zan rfl ?_) | ((with_reducible refine zcw ?_); first | refine zaa 0 rfl rfl rfl ?_ | refine zaa 1 rfl rfl rfl ?_ | refine zaa 2 rfl rfl rfl ?_ | refine zaa 3 rfl rfl rfl ?_ | refine zaa 4 rfl rfl rfl ?_ | refine zaa 5 rfl rfl rfl ?_ | refine zab 0 rfl rfl rfl ?_ | refine zab 1 rfl rfl rfl ?_ | refine zab 2 rfl rfl rfl ?_ | refine zab 3 rfl rfl rfl ?_ | refine zab 4 rfl rfl rfl ?_ | refine zab 5 rfl rfl rfl ?_) | ((with_reducible refine zcx ?_); refine zah [0] hP rfl rfl rfl sub_nil rfl ?_) | ((with_reducible refine zcy ?_); refine zao rfl ?_) | ((with_reducible refine zcz ?_); refine zan rfl ?_) | ((with_reducible refine zda ?_); first | refine zbc rfl rfl (by omega) ?_ | refine zbd rfl rfl (by omega) ?_ | refine zbe rfl rfl (by omega) ?_ | refine zbf rfl rfl (by omega) ?_ | refine zbg rfl rfl (by omega) ?_ | refine zbh rfl rfl (by omega) ?_ | refine zau rfl rfl (by omega) ?_ | refine zav rfl rfl (by omega) ?_ | refine zbo rfl rfl ?_ | refine zbp rfl rfl ?_ | refine zbq rfl rfl ?_ | refine zaz rfl rfl ?_ | refine zbb rfl rfl ?_ | refine zba rfl rfl ?_) | ((with_reducible refine zdc ?_); first | refine zbu rfl ?_ | refine zbv rfl ?_ | refine zbw rfl rfl rfl ?_) | ((with_reducible refine zdd ?_); first | refine zae 0 rfl rfl rfl rfl rfl rfl rfl ?_ | refine zae 1 rfl rfl rfl rfl rfl rfl rfl ?_ | refine zae 2 rfl rfl rfl rfl rfl rfl rfl ?_ | refine zae 3 rfl rfl rfl rfl rfl rfl rfl ?_ | refine zae 4 rfl rfl rfl rfl rfl rfl rfl ?_ | refine zae 5 rfl rfl rfl rfl rfl rfl rfl ?_) | ((with_reducible refine zdh ?_); refine zar (fun nb => ?_))) | refine zch ?_ | refine zci rfl ?_ | refine zcj rfl ?_)
    refine cut_end ⟨rfl, k + 1, ⟨rfl, rfl, int_eq (by omega), trivial⟩, ⟨rfl, hlt⟩, by omega⟩
  · have hk9 : k = 9 := by omega
    subst hk9
    repeat' (first | refine zck ?_ | refine zcp (by kernel_rfl) ?_ | refine zcq PP_mixed (by kernel_rfl) (by kernel_rfl) ?_ | refine zcm ?_ | refine zcl ?_ | refine zcn ?_ | refine zco ?_ | refine zcs rfl ?_ | (refine zap rfl ?_; first | ((with_reducible refine zct ?_); first | refine zaj rfl ?_ | refine zak rfl ?_ | refine zal rfl ?_ | refine zam rfl rfl (fun _ => ?_) (fun _ => ?_)) | ((with_reducible refine zcu ?_); refine zan rfl ?_) | ((with_reducible refine zcv ?_); refine zan rfl ?_) | ((with_reducible refine zcw ?_); first | refine zaa 0 rfl rfl rfl ?_ | refine zaa 1 rfl rfl rfl ?_ | refine zaa 2 rfl rfl rfl ?_ | refine zaa 3 rfl rfl rfl ?_ | refine zaa 4 rfl rfl rfl ?_ | refine zaa 5 rfl rfl rfl ?_ | refine zab 0 rfl rfl rfl ?_ | refine zab 1 rfl rfl rfl ?_ | refine zab 2 rfl rfl rfl ?_ | refine zab 3 rfl rfl rfl ?_ | refine zab 4 rfl rfl rfl ?_ | refine zab 5 rfl rfl rfl ?_) | ((with_reducible refine zcy ?_); refine zao rfl ?_) | ((with_reducible refine zcz ?_); refine zan rfl ?_) | ((with_reducible refine zda ?_); first | refine zbc rfl rfl (by omega) ?_ | refine zbd rfl rfl (by omega) ?_ | refine zbe rfl rfl (by omega) ?_ | refine zbf rfl rfl (by omega) ?_ | refine zbg rfl rfl (by omega) ?_ | refine zbh rfl rfl (by omega) ?_ | refine zau rfl rfl (by omega) ?_ | refine zav rfl rfl (by omega) ?_ | refine zbo rfl rfl ?_ | refine zbp rfl rfl ?_ | refine zbq rfl rfl ?_ | refine zaz rfl rfl ?_ | refine zbb rfl rfl ?_ | refine zba rfl rfl ?_) | ((with_reducible refine zdc ?_); first | refine zbu rfl ?_ | refine zbv rfl ?_ | refine zbw rfl rfl rfl ?_) | ((with_reducible refine zdd ?_); first | refine zae 0 rfl rfl rfl rfl rfl rfl rfl ?_ | refine zae 1 rfl rfl rfl rfl rfl rfl rfl ?_ | refine zae 2 rfl rfl rfl rfl rfl rfl rfl ?_ | refine zae 3 rfl rfl rfl rfl rfl rfl rfl ?_ | refine zae 4 rfl rfl rfl rfl rfl rfl rfl ?_ | refine zae 5 rfl rfl rfl rfl rfl rfl rfl ?_) | ((with_reducible refine zdh ?_); refine zar (fun nb => ?_))) | refine zch ?_ | refine zci rfl ?_ | refine zcj rfl ?_)
    refine cut_exit rfl rfl ?_
    repeat (first | refine zck ?_ | refine zcl ?_ | refine zcm ?_ | refine zcn ?_ | refine zco ?_)
    have hG := getA w0 hw p (K := 5) (by decide) (upTo 9) (200 - 9) (i := 8) (v := 8) rfl 8 rfl
    have hL : FnE PP w0 [] 13 [poolV (a0 5).pool, spP p] [ArrA p 5 (upTo 9) (200 - 9)] (.int .i64 2) [ArrA p 5 (upTo 9) (200 - 9)] := leftA w0 hw p (K := 5) (by decide) (upTo 9) (200 - 9)
    have hPo : FnE PP w0 [] 12 [arrV (a0 5), spP p] [ArrA p 5 (upTo 9) (200 - 9)] (.tuple #[.int .i64 8, .int .i64 0]) [ArrA p 5 (upTo 8) (200 - 10)] := by
      have h := popA w0 hw p (K := 5) (by decide) (upTo 8) (200 - 10) 8
      rw [show upTo 8 ++ [8] = upTo 9 from (upTo_succ 8).symm] at h; exact h
    have hL2 : FnE PP w0 [] 13 [poolV (a0 5).pool, spP p] [ArrA p 5 (upTo 8) (200 - 10)] (.int .i64 4) [ArrA p 5 (upTo 8) (200 - 10)] := leftA w0 hw p (K := 5) (by decide) (upTo 8) (200 - 10)
    have hLn : FnE PP w0 [] 14 [arrV (a0 5), spP p] [ArrA p 5 (upTo 8) (200 - 10)] (.int .i64 8) [ArrA p 5 (upTo 8) (200 - 10)] := lenA w0 hw p (K := 5) (by decide) (upTo 8) (200 - 10)
    generalize upTo 9 = l9 at *
    generalize upTo 8 = l8 at *
    repeat (first | refine zck ?_ | refine zcl ?_ | refine zcm ?_ | refine zcn ?_)
    first | refine zcp (by kernel_rfl) ?_ | refine zcq PP_mixed (by kernel_rfl) (by kernel_rfl) ?_
    repeat' (refine zap rfl ?_; first | ((with_reducible refine zct ?_); first | refine zaj rfl ?_ | refine zak rfl ?_ | refine zal rfl ?_ | refine zam rfl rfl (fun _ => ?_) (fun _ => ?_)) | ((with_reducible refine zcu ?_); refine zan rfl ?_) | ((with_reducible refine zcv ?_); refine zan rfl ?_) | ((with_reducible refine zcw ?_); first | refine zaa 0 rfl rfl rfl ?_ | refine zaa 1 rfl rfl rfl ?_ | refine zaa 2 rfl rfl rfl ?_ | refine zaa 3 rfl rfl rfl ?_ | refine zaa 4 rfl rfl rfl ?_ | refine zaa 5 rfl rfl rfl ?_ | refine zab 0 rfl rfl rfl ?_ | refine zab 1 rfl rfl rfl ?_ | refine zab 2 rfl rfl rfl ?_ | refine zab 3 rfl rfl rfl ?_ | refine zab 4 rfl rfl rfl ?_ | refine zab 5 rfl rfl rfl ?_) | ((with_reducible refine zcx ?_); refine zah [0] hG rfl rfl rfl sub_nil rfl ?_) | ((with_reducible refine zcy ?_); refine zao rfl ?_) | ((with_reducible refine zcz ?_); refine zan rfl ?_) | ((with_reducible refine zda ?_); first | refine zbc rfl rfl (by omega) ?_ | refine zbd rfl rfl (by omega) ?_ | refine zbe rfl rfl (by omega) ?_ | refine zbf rfl rfl (by omega) ?_ | refine zbg rfl rfl (by omega) ?_ | refine zbh rfl rfl (by omega) ?_ | refine zau rfl rfl (by omega) ?_ | refine zav rfl rfl (by omega) ?_ | refine zbo rfl rfl ?_ | refine zbp rfl rfl ?_ | refine zbq rfl rfl ?_ | refine zaz rfl rfl ?_ | refine zbb rfl rfl ?_ | refine zba rfl rfl ?_) | ((with_reducible refine zdc ?_); first | refine zbu rfl ?_ | refine zbv rfl ?_ | refine zbw rfl rfl rfl ?_) | ((with_reducible refine zdd ?_); first | refine zae 0 rfl rfl rfl rfl rfl rfl rfl ?_ | refine zae 1 rfl rfl rfl rfl rfl rfl rfl ?_ | refine zae 2 rfl rfl rfl rfl rfl rfl rfl ?_ | refine zae 3 rfl rfl rfl rfl rfl rfl rfl ?_ | refine zae 4 rfl rfl rfl rfl rfl rfl rfl ?_ | refine zae 5 rfl rfl rfl rfl rfl rfl rfl ?_) | ((with_reducible refine zdh ?_); refine zar (fun nb => ?_)))
    all_goals refine zch ?_
    all_goals repeat (first | refine zck ?_ | refine zcl ?_ | refine zcm ?_ | refine zcn ?_)
    repeat (first | refine zck ?_ | refine zcl ?_ | refine zcm ?_ | refine zcn ?_)
    first | refine zcp (by kernel_rfl) ?_ | refine zcq PP_mixed (by kernel_rfl) (by kernel_rfl) ?_
    repeat' (refine zap rfl ?_; first | ((with_reducible refine zct ?_); first | refine zaj rfl ?_ | refine zak rfl ?_ | refine zal rfl ?_ | refine zam rfl rfl (fun _ => ?_) (fun _ => ?_)) | ((with_reducible refine zcu ?_); refine zan rfl ?_) | ((with_reducible refine zcv ?_); refine zan rfl ?_) | ((with_reducible refine zcw ?_); first | refine zaa 0 rfl rfl rfl ?_ | refine zaa 1 rfl rfl rfl ?_ | refine zaa 2 rfl rfl rfl ?_ | refine zaa 3 rfl rfl rfl ?_ | refine zaa 4 rfl rfl rfl ?_ | refine zaa 5 rfl rfl rfl ?_ | refine zab 0 rfl rfl rfl ?_ | refine zab 1 rfl rfl rfl ?_ | refine zab 2 rfl rfl rfl ?_ | refine zab 3 rfl rfl rfl ?_ | refine zab 4 rfl rfl rfl ?_ | refine zab 5 rfl rfl rfl ?_) | ((with_reducible refine zcx ?_); refine zah [0] hL rfl rfl rfl sub_nil rfl ?_) | ((with_reducible refine zcy ?_); refine zao rfl ?_) | ((with_reducible refine zcz ?_); refine zan rfl ?_) | ((with_reducible refine zda ?_); first | refine zbc rfl rfl (by omega) ?_ | refine zbd rfl rfl (by omega) ?_ | refine zbe rfl rfl (by omega) ?_ | refine zbf rfl rfl (by omega) ?_ | refine zbg rfl rfl (by omega) ?_ | refine zbh rfl rfl (by omega) ?_ | refine zau rfl rfl (by omega) ?_ | refine zav rfl rfl (by omega) ?_ | refine zbo rfl rfl ?_ | refine zbp rfl rfl ?_ | refine zbq rfl rfl ?_ | refine zaz rfl rfl ?_ | refine zbb rfl rfl ?_ | refine zba rfl rfl ?_) | ((with_reducible refine zdc ?_); first | refine zbu rfl ?_ | refine zbv rfl ?_ | refine zbw rfl rfl rfl ?_) | ((with_reducible refine zdd ?_); first | refine zae 0 rfl rfl rfl rfl rfl rfl rfl ?_ | refine zae 1 rfl rfl rfl rfl rfl rfl rfl ?_ | refine zae 2 rfl rfl rfl rfl rfl rfl rfl ?_ | refine zae 3 rfl rfl rfl rfl rfl rfl rfl ?_ | refine zae 4 rfl rfl rfl rfl rfl rfl rfl ?_ | refine zae 5 rfl rfl rfl rfl rfl rfl rfl ?_) | ((with_reducible refine zdh ?_); refine zar (fun nb => ?_)))
    all_goals refine zch ?_
    all_goals repeat (first | refine zck ?_ | refine zcl ?_ | refine zcm ?_ | refine zcn ?_)
    repeat (first | refine zck ?_ | refine zcl ?_ | refine zcm ?_ | refine zcn ?_)
    first | refine zcp (by kernel_rfl) ?_ | refine zcq PP_mixed (by kernel_rfl) (by kernel_rfl) ?_
    repeat' (refine zap rfl ?_; first | ((with_reducible refine zct ?_); first | refine zaj rfl ?_ | refine zak rfl ?_ | refine zal rfl ?_ | refine zam rfl rfl (fun _ => ?_) (fun _ => ?_)) | ((with_reducible refine zcu ?_); refine zan rfl ?_) | ((with_reducible refine zcv ?_); refine zan rfl ?_) | ((with_reducible refine zcw ?_); first | refine zaa 0 rfl rfl rfl ?_ | refine zaa 1 rfl rfl rfl ?_ | refine zaa 2 rfl rfl rfl ?_ | refine zaa 3 rfl rfl rfl ?_ | refine zaa 4 rfl rfl rfl ?_ | refine zaa 5 rfl rfl rfl ?_ | refine zab 0 rfl rfl rfl ?_ | refine zab 1 rfl rfl rfl ?_ | refine zab 2 rfl rfl rfl ?_ | refine zab 3 rfl rfl rfl ?_ | refine zab 4 rfl rfl rfl ?_ | refine zab 5 rfl rfl rfl ?_) | ((with_reducible refine zcx ?_); refine zah [0] hPo rfl rfl rfl sub_nil rfl ?_) | ((with_reducible refine zcy ?_); refine zao rfl ?_) | ((with_reducible refine zcz ?_); refine zan rfl ?_) | ((with_reducible refine zda ?_); first | refine zbc rfl rfl (by omega) ?_ | refine zbd rfl rfl (by omega) ?_ | refine zbe rfl rfl (by omega) ?_ | refine zbf rfl rfl (by omega) ?_ | refine zbg rfl rfl (by omega) ?_ | refine zbh rfl rfl (by omega) ?_ | refine zau rfl rfl (by omega) ?_ | refine zav rfl rfl (by omega) ?_ | refine zbo rfl rfl ?_ | refine zbp rfl rfl ?_ | refine zbq rfl rfl ?_ | refine zaz rfl rfl ?_ | refine zbb rfl rfl ?_ | refine zba rfl rfl ?_) | ((with_reducible refine zdc ?_); first | refine zbu rfl ?_ | refine zbv rfl ?_ | refine zbw rfl rfl rfl ?_) | ((with_reducible refine zdd ?_); first | refine zae 0 rfl rfl rfl rfl rfl rfl rfl ?_ | refine zae 1 rfl rfl rfl rfl rfl rfl rfl ?_ | refine zae 2 rfl rfl rfl rfl rfl rfl rfl ?_ | refine zae 3 rfl rfl rfl rfl rfl rfl rfl ?_ | refine zae 4 rfl rfl rfl rfl rfl rfl rfl ?_ | refine zae 5 rfl rfl rfl rfl rfl rfl rfl ?_) | ((with_reducible refine zdh ?_); refine zar (fun nb => ?_)))
    all_goals refine zch ?_
    all_goals repeat (first | refine zck ?_ | refine zcl ?_ | refine zcm ?_ | refine zcn ?_)
    repeat (first | refine zck ?_ | refine zcl ?_ | refine zcm ?_ | refine zcn ?_)
    first | refine zcp (by kernel_rfl) ?_ | refine zcq PP_mixed (by kernel_rfl) (by kernel_rfl) ?_
    repeat' (refine zap rfl ?_; first | ((with_reducible refine zct ?_); first | refine zaj rfl ?_ | refine zak rfl ?_ | refine zal rfl ?_ | refine zam rfl rfl (fun _ => ?_) (fun _ => ?_)) | ((with_reducible refine zcu ?_); refine zan rfl ?_) | ((with_reducible refine zcv ?_); refine zan rfl ?_) | ((with_reducible refine zcw ?_); first | refine zaa 0 rfl rfl rfl ?_ | refine zaa 1 rfl rfl rfl ?_ | refine zaa 2 rfl rfl rfl ?_ | refine zaa 3 rfl rfl rfl ?_ | refine zaa 4 rfl rfl rfl ?_ | refine zaa 5 rfl rfl rfl ?_ | refine zab 0 rfl rfl rfl ?_ | refine zab 1 rfl rfl rfl ?_ | refine zab 2 rfl rfl rfl ?_ | refine zab 3 rfl rfl rfl ?_ | refine zab 4 rfl rfl rfl ?_ | refine zab 5 rfl rfl rfl ?_) | ((with_reducible refine zcx ?_); first | refine zah [0] hL2 rfl rfl rfl sub_nil rfl ?_ | refine zah [0] hLn rfl rfl rfl sub_nil rfl ?_) | ((with_reducible refine zcy ?_); refine zao rfl ?_) | ((with_reducible refine zcz ?_); refine zan rfl ?_) | ((with_reducible refine zda ?_); first | refine zbc rfl rfl (by omega) ?_ | refine zbd rfl rfl (by omega) ?_ | refine zbe rfl rfl (by omega) ?_ | refine zbf rfl rfl (by omega) ?_ | refine zbg rfl rfl (by omega) ?_ | refine zbh rfl rfl (by omega) ?_ | refine zau rfl rfl (by omega) ?_ | refine zav rfl rfl (by omega) ?_ | refine zbo rfl rfl ?_ | refine zbp rfl rfl ?_ | refine zbq rfl rfl ?_ | refine zaz rfl rfl ?_ | refine zbb rfl rfl ?_ | refine zba rfl rfl ?_) | ((with_reducible refine zdc ?_); first | refine zbu rfl ?_ | refine zbv rfl ?_ | refine zbw rfl rfl rfl ?_) | ((with_reducible refine zdd ?_); first | refine zae 0 rfl rfl rfl rfl rfl rfl rfl ?_ | refine zae 1 rfl rfl rfl rfl rfl rfl rfl ?_ | refine zae 2 rfl rfl rfl rfl rfl rfl rfl ?_ | refine zae 3 rfl rfl rfl rfl rfl rfl rfl ?_ | refine zae 4 rfl rfl rfl rfl rfl rfl rfl ?_ | refine zae 5 rfl rfl rfl rfl rfl rfl rfl ?_) | ((with_reducible refine zdh ?_); refine zar (fun nb => ?_)))
    all_goals refine zch ?_
    all_goals repeat (first | refine zck ?_ | refine zcl ?_ | refine zcm ?_ | refine zcn ?_)
    refine run_ret (leaves_nil (ends_take [] rfl (ends_one rfl rfl ⟨rfl, rfl, rfl⟩)))
end Go.Proofs.YtilnknokgflkjaaDoor

/- The walk of ArrayDrains. -/
namespace Go.Proofs.YtilnknokgflkjaaDoor
open Go.Vc Sim
set_option maxHeartbeats 4000000
abbrev encI : Int → List Value := fun x => [.int .i64 x]
theorem inSl_rd {c : Array Value} {off i : Nat} {u : Value} (h : c[off + (i * 1 + 0)]? = some u) (o : Nat) (ho : o = off + i * 1) : rd false 1 c.toList o = some u := by
  subst ho
  show nth c.toList _ = _
  rw [nth_eq]; simpa using h

theorem drains_spec (w0 : World) (hw : PowOk w0) (m : Int) (hm : u8P m) (v : Value) (l : List Int) (hv : InSl w0 encI 1 v l) (hl : ∀ x ∈ l, i64P x) :
    FnE PP w0 [] 3 [.int .u8 m, v] [] (.bool true) [] := by
  obtain ⟨a, cap, rfl, hmax, hmem⟩ := hv
  have hmax2 : (l.length : Int) ≤ 9223372036854775807 := by have := hmax.2; simp only [maxLen] at this; omega
  refine fn_of_run en3 fn3 rfl rfl rfl ?_
  by_cases hlen : (l.length : Int) > 200
  · repeat' (first | refine zck ?_ | refine zcp (by kernel_rfl) ?_ | (refine zap rfl ?_; first | ((with_reducible refine zcu ?_); refine zan rfl ?_) | ((with_reducible refine zcv ?_); refine zan rfl ?_) | ((with_reducible refine zcx ?_); first | refine zah [] (awake_spec w0 hw) rfl rfl rfl sub_nil rfl ?_ | refine zce rfl ?_) | ((with_reducible refine zda ?_); refine zbk rfl rfl (by omega) ?_)) | refine zch ?_ | refine zci rfl ?_)
    exact ret_tmp1 rfl ⟨rfl, rfl⟩
  have hK : 0 ≤ m % 24 ∧ m % 24 ≤ 23 := by omega
  generalize hKK : m % 24 = K at hK
  repeat (first | refine zck ?_ | refine zcl ?_ | refine zcm ?_ | refine zcn ?_)
  first | refine zcp (by kernel_rfl) ?_ | refine zcq PP_mixed (by kernel_rfl) (by kernel_rfl) ?_
  repeat' (refine zap rfl ?_; first | ((with_reducible refine zcv ?_); refine zan rfl ?_))
  all_goals refine zch ?_
  all_goals repeat (first | refine zck ?_ | refine zcl ?_ | refine zcm ?_ | refine zcn ?_)
  repeat (first | refine zck ?_ | refine zcl ?_ | refine zcm ?_ | refine zcn ?_)
  first | refine zcp (by kernel_rfl) ?_ | refine zcq PP_mixed (by kernel_rfl) (by kernel_rfl) ?_
  repeat' (refine zap rfl ?_; first | ((with_reducible refine zcu ?_); refine zan rfl ?_) | ((with_reducible refine zcx ?_); refine zce rfl ?_) | ((with_reducible refine zda ?_); refine zbl rfl rfl (by omega) ?_))
  all_goals refine zch ?_
  all_goals repeat (first | refine zck ?_ | refine zcl ?_ | refine zcm ?_ | refine zcn ?_)
  refine zcj rfl ?_
  repeat (first | refine zck ?_ | refine zcl ?_ | refine zcm ?_ | refine zcn ?_ | refine zco ?_)
  repeat (first | refine zck ?_ | refine zcl ?_ | refine zcm ?_ | refine zcn ?_)
  first | refine zcp (by kernel_rfl) ?_ | refine zcq PP_mixed (by kernel_rfl) (by kernel_rfl) ?_
  repeat' (refine zap rfl ?_; first | (refine zai [] (startA w0 m hm K hKK.symm) rfl rfl rfl sub_nil ?_; rintro v Γ' ⟨vb, rfl, rfl⟩) | ((with_reducible refine zcu ?_); refine zan rfl ?_) | ((with_reducible refine zcz ?_); refine zan rfl ?_) | ((with_reducible refine zdd ?_); first | refine zae 1 rfl rfl rfl rfl rfl rfl rfl ?_ | refine zae 2 rfl rfl rfl rfl rfl rfl rfl ?_) | ((with_reducible refine zdh ?_); refine zar (fun nb => ?_)))
  all_goals refine zch ?_
  all_goals repeat (first | refine zck ?_ | refine zcl ?_ | refine zcm ?_ | refine zcn ?_)
  rename_i b1
  revert nb; intro b2
  refine run_share [0] rfl ?_
  refine run_share [0] rfl ?_
  refine run_share [0] rfl ?_
  repeat (first | refine zck ?_ | refine zcl ?_ | refine zcm ?_ | refine zcn ?_)
  first | refine zcp (by kernel_rfl) ?_ | refine zcq PP_mixed (by kernel_rfl) (by kernel_rfl) ?_
  repeat' (refine zap rfl ?_; first | (refine zai [] (knownA w0 vb _ K hK 2 (0, 0)) rfl rfl rfl (by intro p hp; simp at hp; subst hp; simp) ?_; rintro v Γ' ⟨mb, rfl, rfl⟩) | (refine zai [0] (newA w0 mb hK 1000 (by decide)) rfl rfl rfl sub_nil ?_; rintro v Γ' ⟨p, rfl, rfl⟩) | ((with_reducible refine zcv ?_); refine zan rfl ?_) | ((with_reducible refine zcw ?_); refine zaa 0 rfl rfl rfl ?_))
  all_goals refine zch ?_
  all_goals repeat (first | refine zck ?_ | refine zcl ?_ | refine zcm ?_ | refine zcn ?_)
  repeat (first | refine zck ?_ | refine zcl ?_ | refine zcm ?_ | refine zcn ?_)
  first | refine zcp (by kernel_rfl) ?_ | refine zcq PP_mixed (by kernel_rfl) (by kernel_rfl) ?_
  repeat' (refine zap rfl ?_; first | ((with_reducible refine zcv ?_); refine zan rfl ?_))
  all_goals refine zch ?_
  all_goals repeat (refine zck ?_)
  repeat (first | refine zck ?_ | refine zcl ?_ | refine zcm ?_ | refine zcn ?_)
  first | refine zcp (by kernel_rfl) ?_ | refine zcq PP_mixed (by kernel_rfl) (by kernel_rfl) ?_
  repeat' (refine zap rfl ?_; first | ((with_reducible refine zcv ?_); refine zan rfl ?_))
  all_goals refine zch ?_
  all_goals repeat (refine zck ?_)
  refine run_slots [(1, .slice a l.length cap), (5, ptr b1), (7, spP p), (8, .int .i64 0), (9, .int .i64 0)] ⟨rfl, rfl, rfl, rfl, rfl, trivial⟩ (fun junk => ?_)
  refine run_join (S := Nat × Nat) (fun st => [(1, .slice a l.length cap), (5, ptr b1), (7, spP p), (8, .int .i64 (st.1 : Int))]) (fun st Γ => Γ = [ArrA p K (l.take st.1) st.2] ∧ st.1 ≤ l.length ∧ 700 ≤ st.2) ?_ ?_
  · refine zcl ?_
    refine run_loop (S := Nat) (fun k => [(1, .slice a l.length cap), (5, ptr b1), (7, spP p), (8, .int .i64 (k : Int)), (9, .int .i64 (k : Int))])
      (fun k Γ => Γ = [ArrA p K (l.take k) (1000 - k)] ∧ k ≤ l.length) (fun k => l.length - k) 0 ⟨rfl, rfl, rfl, rfl, rfl, trivial⟩ ⟨by simp, Nat.zero_le _⟩ ?_
    rintro k Γ junk ⟨rfl, hk⟩
    by_cases hlt : k < l.length
    · have hx : l[k]? = some l[k] := List.getElem?_eq_getElem hlt
      generalize l[k] = x at hx
      obtain ⟨b, off, c, TT, fr, rfl, hh, hc⟩ := hmem.resolve_left (by intro e; subst e; simp at hlt)
      have hcx := inSl_rd ((hc k x hx).2 0 _ rfl)
      have hlk : (l.take k).length = k := by simp; omega
      have hsn : l.take k ++ [x] = l.take (k + 1) := by rw [List.take_add_one, hx]; rfl
      by_cases hT : (T (k + 1) : Int) ≤ K
      · have hP := pushA w0 hw p hK (l.take k) (1000 - (k + 1)) x (by rw [hlk]; exact hT)
        rw [hlk, hsn, show 1000 - (k + 1) + 1 = 1000 - k by omega] at hP
        repeat' (first | refine zck ?_ | refine zcp (by kernel_rfl) ?_ | refine zcq PP_mixed (by kernel_rfl) (by kernel_rfl) ?_ | refine zcm ?_ | refine zcl ?_ | refine zcn ?_ | (refine zap rfl ?_; first | refine zac rfl hh (hcx _ (by omega)) ?_ | ((with_reducible refine zcu ?_); refine zan rfl ?_) | ((with_reducible refine zcv ?_); refine zan rfl ?_) | ((with_reducible refine zcw ?_); refine zaa 1 rfl rfl rfl ?_) | ((with_reducible refine zcx ?_); first | refine zah [0] hP rfl rfl rfl sub_nil rfl ?_ | refine zce rfl ?_) | ((with_reducible refine zcz ?_); refine zan rfl ?_) | ((with_reducible refine zda ?_); first | refine zbc rfl rfl (by omega) ?_ | refine zbg rfl rfl (by omega) ?_ | refine zau rfl rfl (by omega) ?_) | ((with_reducible refine zdf ?_); refine zas rfl rfl (by omega) ?_)) | refine zch ?_ | refine zci rfl ?_)
        refine cut_end ⟨rfl, k + 1, ⟨rfl, rfl, rfl, int_eq (by omega), int_eq (by omega), trivial⟩, ⟨rfl, hlt⟩, by omega⟩
      · have hP := pushA_full w0 hw p hK (l.take k) (1000 - (k + 1)) x (by rw [hlk]; omega)
        rw [show 1000 - (k + 1) + 1 = 1000 - k by omega] at hP
        repeat' (first | refine zck ?_ | refine zcp (by kernel_rfl) ?_ | refine zcq PP_mixed (by kernel_rfl) (by kernel_rfl) ?_ | refine zcm ?_ | refine zcl ?_ | (refine zap rfl ?_; first | refine zac rfl hh (hcx _ (by omega)) ?_ | ((with_reducible refine zcu ?_); refine zan rfl ?_) | ((with_reducible refine zcv ?_); refine zan rfl ?_) | ((with_reducible refine zcw ?_); refine zaa 1 rfl rfl rfl ?_) | ((with_reducible refine zcx ?_); first | refine zah [0] hP rfl rfl rfl sub_nil rfl ?_ | refine zce rfl ?_) | ((with_reducible refine zcz ?_); refine zan rfl ?_) | ((with_reducible refine zda ?_); first | refine zbd rfl rfl (by omega) ?_ | refine zbg rfl rfl (by omega) ?_) | ((with_reducible refine zdf ?_); refine zas rfl rfl (by omega) ?_)) | refine zch ?_ | refine zci rfl ?_ | refine zcj rfl ?_)
        refine cut_exit rfl rfl ?_
        refine cut_end ⟨rfl, (k, 1000 - (k + 1)), ⟨rfl, rfl, rfl, rfl, trivial⟩, rfl, hk, by dsimp only; omega⟩
    · repeat' (first | refine zck ?_ | refine zcp (by kernel_rfl) ?_ | (refine zap rfl ?_; first | ((with_reducible refine zcu ?_); refine zan rfl ?_) | ((with_reducible refine zcx ?_); refine zce rfl ?_) | ((with_reducible refine zda ?_); refine zbh rfl rfl (by omega) ?_)) | refine zch ?_ | refine zcj rfl ?_)
      refine cut_exit rfl rfl ?_
      refine cut_end ⟨rfl, (k, 1000 - k), ⟨rfl, rfl, rfl, rfl, trivial⟩, rfl, hk, by dsimp only; omega⟩
  rintro ⟨n, c⟩ Γ junk ⟨rfl, hn, hc⟩
  dsimp only at hn hc ⊢
  repeat (first | refine zck ?_ | refine zcl ?_ | refine zcm ?_ | refine zcn ?_)
  first | refine zcp (by kernel_rfl) ?_ | refine zcq PP_mixed (by kernel_rfl) (by kernel_rfl) ?_
  repeat' (refine zap rfl ?_; first | ((with_reducible refine zcu ?_); refine zan rfl ?_) | ((with_reducible refine zcv ?_); refine zan rfl ?_) | ((with_reducible refine zda ?_); refine zav rfl rfl (by omega) ?_))
  all_goals refine zch ?_
  all_goals repeat (refine zck ?_)
  refine run_slots [(1, .slice a l.length cap), (5, ptr b1), (7, spP p), (12, .int .i64 ((n : Int) - 1))] ⟨rfl, rfl, rfl, rfl, trivial⟩ (fun junk => ?_)
  refine zcl ?_
  refine run_loop (S := Nat × Nat) (fun st => [(1, .slice a l.length cap), (5, ptr b1), (7, spP p), (12, .int .i64 ((st.1 : Int) - 1))]) (fun st Γ => Γ = [ArrA p K (l.take st.1) st.2] ∧ st.1 ≤ l.length ∧ 300 + st.1 ≤ st.2)
    (fun st => st.1) (n, c) ⟨rfl, rfl, rfl, rfl, trivial⟩ ⟨rfl, hn, by dsimp only; omega⟩ ?_
  rintro ⟨k, c⟩ Γ junk ⟨rfl, hk, hc⟩
  dsimp only at hk hc ⊢
  match k, hk, hc with
  | 0, hk, hc =>
    repeat' (first | refine zck ?_ | refine zcp (by kernel_rfl) ?_ | (refine zap rfl ?_; first | ((with_reducible refine zcu ?_); refine zan rfl ?_) | ((with_reducible refine zda ?_); refine zbn rfl rfl (by omega) ?_)) | refine zch ?_ | refine zcj rfl ?_)
    refine cut_exit rfl rfl ?_
    repeat (first | refine zck ?_ | refine zcl ?_ | refine zcm ?_ | refine zcn ?_ | refine zco ?_)
    have hP := popA_none w0 hw p hK (c - 1)
    rw [show c - 1 + 1 = c by omega] at hP
    have hL : FnE PP w0 [] 13 [poolV (a0 K).pool, spP p] [ArrA p K [] (c - 1)] (.int .i64 K) [ArrA p K [] (c - 1)] := by
      have h := leftA w0 hw p hK [] (c - 1)
      rw [show ((T ([] : List Int).length : Nat) : Int) = 0 from rfl, Int.sub_zero] at h; exact h
    have hLn : FnE PP w0 [] 14 [arrV (a0 K), spP p] [ArrA p K [] (c - 1)] (.int .i64 0) [ArrA p K [] (c - 1)] := lenA w0 hw p hK [] (c - 1)
    rw [show l.take 0 = [] from rfl]
    repeat (first | refine zck ?_ | refine zcl ?_ | refine zcm ?_ | refine zcn ?_)
    first | refine zcp (by kernel_rfl) ?_ | refine zcq PP_mixed (by kernel_rfl) (by kernel_rfl) ?_
    repeat' (refine zap rfl ?_; first | ((with_reducible refine zcu ?_); refine zan rfl ?_) | ((with_reducible refine zcv ?_); refine zan rfl ?_) | ((with_reducible refine zcw ?_); refine zaa 1 rfl rfl rfl ?_) | ((with_reducible refine zcx ?_); refine zah [0] hP rfl rfl rfl sub_nil rfl ?_) | ((with_reducible refine zcz ?_); refine zan rfl ?_))
    all_goals refine zch ?_
    all_goals repeat (first | refine zck ?_ | refine zcl ?_ | refine zcm ?_ | refine zcn ?_)
    repeat (first | refine zck ?_ | refine zcl ?_ | refine zcm ?_ | refine zcn ?_)
    first | refine zcp (by kernel_rfl) ?_ | refine zcq PP_mixed (by kernel_rfl) (by kernel_rfl) ?_
    repeat' (refine zap rfl ?_; first | ((with_reducible refine zct ?_); refine zaj rfl ?_) | ((with_reducible refine zcu ?_); refine zan rfl ?_) | ((with_reducible refine zcv ?_); refine zan rfl ?_) | ((with_reducible refine zcw ?_); refine zaa 1 rfl rfl rfl ?_) | ((with_reducible refine zcx ?_); first | refine zah [0] hL rfl rfl rfl sub_nil rfl ?_ | refine zah [0] hLn rfl rfl rfl sub_nil rfl ?_ | refine zah [] (awake_spec w0 hw) rfl rfl rfl sub_nil rfl ?_) | ((with_reducible refine zcy ?_); refine zao rfl ?_) | ((with_reducible refine zda ?_); refine zbc rfl rfl (by omega) ?_) | ((with_reducible refine zdc ?_); refine zbu rfl ?_))
    all_goals refine zch ?_
    all_goals repeat (first | refine zck ?_ | refine zcl ?_ | refine zcm ?_ | refine zcn ?_)
    refine run_ret (leaves_nil (ends_take [] rfl (ends_one rfl rfl ⟨rfl, rfl, rfl⟩)))
  | k + 1, hk, hc =>
    have hlt : k < l.length := by omega
    have hx : l[k]? = some l[k] := List.getElem?_eq_getElem hlt
    generalize l[k] = x at hx
    obtain ⟨b, off, cc, TT, fr, rfl, hh, hcc⟩ := hmem.resolve_left (by intro e; subst e; simp at hlt)
    have hcx := inSl_rd ((hcc k x hx).2 0 _ rfl)
    have hsn : l.take k ++ [x] = l.take (k + 1) := by rw [List.take_add_one, hx]; rfl
    have hP := popA w0 hw p hK (l.take k) (c - 1) x
    rw [hsn, show c - 1 + 1 = c by omega] at hP
    repeat' (first | refine zck ?_ | refine zcp (by kernel_rfl) ?_ | refine zcm ?_ | refine zcl ?_ | refine zcn ?_ | (refine zap rfl ?_; first | refine zac rfl hh (hcx _ (by omega)) ?_ | ((with_reducible refine zct ?_); refine zaj rfl ?_) | ((with_reducible refine zcu ?_); refine zan rfl ?_) | ((with_reducible refine zcv ?_); refine zan rfl ?_) | ((with_reducible refine zcw ?_); refine zaa 1 rfl rfl rfl ?_) | ((with_reducible refine zcx ?_); refine zah [0] hP rfl rfl rfl sub_nil rfl ?_) | ((with_reducible refine zcz ?_); refine zan rfl ?_) | ((with_reducible refine zda ?_); first | refine zbf rfl rfl (by omega) ?_ | refine zbm rfl rfl (by omega) ?_ | refine zav rfl rfl (by omega) ?_) | ((with_reducible refine zdc ?_); refine zbv rfl ?_) | ((with_reducible refine zdf ?_); refine zas rfl rfl (by omega) ?_)) | refine zch ?_ | refine zci rfl ?_ | refine zcj rfl ?_)
    refine cut_end ⟨rfl, (k, c - 1), ⟨rfl, rfl, rfl, int_eq (by dsimp only; omega), trivial⟩, ⟨rfl, by dsimp only; omega, by dsimp only; omega⟩, by dsimp only; omega⟩
end Go.Proofs.YtilnknokgflkjaaDoor

/- What every card of this seat shares. -/
namespace Go.Proofs.YtilnknokgflkjaaDoor
open Go.Vc Sim Go.ChangeShapes Go.WideShapes Go.RowKit
set_option maxRecDepth 100000
theorem cOwn : ownKnob Tryd.prog.godebug = none := by kernel_rfl
theorem cLaid : laidOutB Tryd.prog = true := by kernel_rfl
def nPow : String := Rows.arrayDrainsRow.named.headD ""
def lPow : List (String × DataW Unit) := [(nPow, Rows.laid_simulcast_array_powers)]
theorem gPow : Tryd.prog.globalNamed nPow = some 0 := by kernel_rfl
theorem tPow : (Tryd.prog.globals[0]?).map (·.type) = some 74 := by kernel_rfl
theorem laid_eq : (Rows.laid_simulcast_array_powers : DataW Unit) = Lib.tabData .i64 [1, 8, 64, 512, 4096] := rfl
theorem pow_ok {W : World} (h : laidMetH Tryd.prog lPow W) : PowOk W := by
  rw [MakeChecks.laidMetH_plain _ _ _ (by kernel_rfl), lPow, laid_eq] at h
  have hT := Lib.tabIs_of_head gPow tPow Tryd.underlying74 Tryd.underlying2 (by kernel_rfl) (by kernel_rfl) h
  unfold Lib.TabIs World.var? at hT
  rw [gPow] at hT
  simp only [Option.bind_some] at hT
  split at hT
  · rename_i cs T fr hc
    cases hT
    exact ⟨T, fr, hc⟩
  · cases hT
theorem door_met (os : Os) (args : Array Value) : laidMetH Tryd.prog lPow ((World.doorLaid Tryd.prog 400 os).forCall (fun _ _ => 0) ⟨#[], args, []⟩).memory :=
  laidMetH_of_parts3 (fuel := 8) (laidMet_of_run' 8 (by kernel_rfl) (by kernel_rfl)) (by kernel_rfl) (by kernel_rfl)
theorem calls_of {f : FuncId} {args : List Value} {W : World} (h : FnE PP W [] f args [] (.bool true) []) : Calls Tryd.prog f args.toArray W fun e W' => e = .returned (.bool true) ∧ Below W.heap.size W W' := by
  have := h.calls Heap.emp W (fun p hp => by cases hp) (st_start W)
  rw [PP_def] at this
  exact this.mono fun e W' ⟨v, Γ', he, ⟨hv, hΓ⟩, hst⟩ => ⟨by rw [he, hv], below_of_good hst.good⟩
end Go.Proofs.YtilnknokgflkjaaDoor

/- The walks of package word, at a word that no reference holds. -/
namespace Go.Proofs.YtilnknokgflkjaaDoor
open Go.Vc Sim
section
variable {P : Program} {w0 : World} {n : Nat} {sh : Shared} {Q : Exit → Env → List Deferred → List Asn → Prop} {k : List Item} {ρ : Env} {df : List Deferred} {Γ : List Asn}
variable {ops : Array Oper} {l : List (Fl × Nat × Oper)} {b : Fl} {i d : Nat} {ty : TypeId} {pos : String} {aft : Array Edge}
theorem reg_bin_gen {op : BinOp} {x y : Operand} {t yt : TypeId} {u v : Value} (r : Value) (hx : ev ρ x = u) (hy : ev ρ y = v) (hg : eqGuard op t x y u v = pure ()) (hb : binOp op t u v = pure r)
    (h : Reg P w0 n sh Q ops l k (ρ.set d r) df Γ) : Reg P w0 n sh Q ops ((b, i, ⟨some d, .binOp op t x y yt, ty, pos, aft, none⟩) :: l) k ρ df Γ :=
  reg_quiet rfl (fun hF _ => quiet_of_run fun w => by
    subst hx; subst hy
    simp only [execOp, hg, hb]; simp) h
end
theorem ref0_spec (w0 : World) : FnE PP w0 [] 78 [.int .i64 0, .int .i64 0] [] (.tuple #[.int .u32 0, .int .i64 3]) [] := by
  refine fn_of_run en78 fn78 rfl rfl rfl ?_
  repeat' (first | refine zck ?_ | refine zcp (by kernel_rfl) ?_ | refine zcq PP_mixed (by kernel_rfl) (by kernel_rfl) ?_ | refine zcm ?_ | refine zcl ?_ | refine zcn ?_ | refine zco ?_ | refine zcs rfl ?_ | (refine zap rfl ?_; first | ((with_reducible refine zct ?_); first | refine zaj rfl ?_ | refine zak rfl ?_ | refine zal rfl ?_ | refine zam rfl rfl (fun _ => ?_) (fun _ => ?_)) | ((with_reducible refine zcu ?_); refine zan rfl ?_) | ((with_reducible refine zcv ?_); refine zan rfl ?_) | ((with_reducible refine zda ?_); first | refine zbg rfl rfl (by omega) ?_ | refine zbh rfl rfl (by omega) ?_ | refine zbk rfl rfl (by omega) ?_ | refine zbl rfl rfl (by omega) ?_ | refine zbq rfl rfl ?_ | refine zbs rfl rfl ?_) | ((with_reducible refine zdc ?_); first | refine zbu rfl ?_ | refine zbv rfl ?_ | refine zbw rfl rfl rfl ?_) | ((with_reducible refine zdi ?_); first | refine zbz rfl (by omega) ?_ | refine zca rfl ?_)) | refine zch ?_ | refine zci rfl ?_ | refine zcj rfl ?_)
  exact ret_tmp2 rfl ⟨rfl, rfl⟩
theorem who0_spec (w0 : World) : FnE PP w0 [] 76 [.int .u32 0] [] (.tuple #[.int .i64 0, .int .i64 0]) [] := by
  refine fn_of_run en76 fn76 rfl rfl rfl ?_
  repeat' (first | refine zck ?_ | refine zcp (by kernel_rfl) ?_ | refine zcq PP_mixed (by kernel_rfl) (by kernel_rfl) ?_ | refine zcm ?_ | refine zcl ?_ | refine zcn ?_ | refine zco ?_ | refine zcs rfl ?_ | (refine zap rfl ?_; first | refine reg_bin_gen (.int .u32 0) rfl rfl rfl rfl ?_ | ((with_reducible refine zcu ?_); refine zan rfl ?_) | ((with_reducible refine zcv ?_); refine zan rfl ?_) | ((with_reducible refine zcx ?_); refine zah [] (ref0_spec w0) rfl rfl rfl sub_nil rfl ?_) | ((with_reducible refine zcz ?_); refine zan rfl ?_) | ((with_reducible refine zda ?_); first | refine zbe rfl rfl (by omega) ?_ | refine zbf rfl rfl (by omega) ?_ | refine zbp rfl rfl ?_ | refine zba rfl rfl ?_) | ((with_reducible refine zdi ?_); first | refine zbz rfl (by omega) ?_ | refine zca rfl ?_)) | refine zch ?_ | refine zci rfl ?_ | refine zcj rfl ?_)
  exact ret_tmp2 rfl ⟨rfl, rfl⟩
theorem kind0_spec (w0 : World) (v r : Int) : FnE PP w0 [] 69 [.agg #[.int .i64 v, .int .u32 r, .int .u32 0]] [] (.int .i64 0) [] := by
  refine fn_of_run en69 fn69 rfl rfl rfl ?_
  repeat' (first | refine zck ?_ | refine zcp (by kernel_rfl) ?_ | refine zcq PP_mixed (by kernel_rfl) (by kernel_rfl) ?_ | refine zcm ?_ | refine zcl ?_ | refine zcn ?_ | refine zco ?_ | refine zcs rfl ?_ | (refine zap rfl ?_; first | ((with_reducible refine zcu ?_); refine zan rfl ?_) | ((with_reducible refine zcv ?_); refine zan rfl ?_) | ((with_reducible refine zcw ?_); first | refine zaa 0 rfl rfl rfl ?_ | refine zaa 1 rfl rfl rfl ?_ | refine zaa 2 rfl rfl rfl ?_ | refine zaa 3 rfl rfl rfl ?_ | refine zaa 4 rfl rfl rfl ?_ | refine zaa 5 rfl rfl rfl ?_ | refine zab 0 rfl rfl rfl ?_ | refine zab 1 rfl rfl rfl ?_ | refine zab 2 rfl rfl rfl ?_ | refine zab 3 rfl rfl rfl ?_ | refine zab 4 rfl rfl rfl ?_ | refine zab 5 rfl rfl rfl ?_) | ((with_reducible refine zcx ?_); refine zah [] (who0_spec w0) rfl rfl rfl sub_nil rfl ?_) | ((with_reducible refine zcy ?_); refine zao rfl ?_) | ((with_reducible refine zcz ?_); refine zan rfl ?_) | ((with_reducible refine zda ?_); first | refine zbc rfl rfl (by omega) ?_ | refine zbd rfl rfl (by omega) ?_ | refine zbk rfl rfl (by omega) ?_ | refine zbl rfl rfl (by omega) ?_ | refine zbo rfl rfl ?_ | refine zbs rfl rfl ?_ | refine zaz rfl rfl ?_ | refine zbb rfl rfl ?_) | ((with_reducible refine zdg ?_); first | refine zaq (cs := [_]) rfl (fun nb => ?_) | refine zaq (cs := [_, _]) rfl (fun nb => ?_) | refine zaq (cs := [_, _, _]) rfl (fun nb => ?_) | refine zaq (cs := [_, _, _, _]) rfl (fun nb => ?_) | refine zaq (cs := [_, _, _, _, _]) rfl (fun nb => ?_) | refine zaq (cs := [_, _, _, _, _, _]) rfl (fun nb => ?_) | refine zaq (cs := [_, _, _, _, _, _, _]) rfl (fun nb => ?_) | refine zaq (cs := [_, _, _, _, _, _, _, _]) rfl (fun nb => ?_))) | refine zch ?_ | refine zci rfl ?_ | refine zcj rfl ?_)
  refine run_take [] rfl ?_
  exact ret_tmp1 rfl ⟨rfl, rfl⟩
theorem plain0_spec (w0 : World) (v r : Int) : FnE PP w0 [] 56 [.agg #[.int .i64 v, .int .u32 r, .int .u32 0]] [] (.bool true) [] := by
  refine fn_of_run en56 fn56 rfl rfl rfl ?_
  repeat' (first | refine zck ?_ | refine zcp (by kernel_rfl) ?_ | refine zcq PP_mixed (by kernel_rfl) (by kernel_rfl) ?_ | refine zcm ?_ | refine zcl ?_ | refine zcn ?_ | refine zco ?_ | refine zcs rfl ?_ | (refine zap rfl ?_; first | ((with_reducible refine zcv ?_); refine zan rfl ?_) | ((with_reducible refine zcw ?_); first | refine zaa 0 rfl rfl rfl ?_ | refine zaa 1 rfl rfl rfl ?_ | refine zaa 2 rfl rfl rfl ?_ | refine zaa 3 rfl rfl rfl ?_ | refine zaa 4 rfl rfl rfl ?_ | refine zaa 5 rfl rfl rfl ?_ | refine zab 0 rfl rfl rfl ?_ | refine zab 1 rfl rfl rfl ?_ | refine zab 2 rfl rfl rfl ?_ | refine zab 3 rfl rfl rfl ?_ | refine zab 4 rfl rfl rfl ?_ | refine zab 5 rfl rfl rfl ?_) | ((with_reducible refine zcx ?_); refine zah [] (kind0_spec w0 v r) rfl rfl rfl sub_nil rfl ?_) | ((with_reducible refine zda ?_); first | refine zbc rfl rfl (by omega) ?_ | refine zbd rfl rfl (by omega) ?_ | refine zbo rfl rfl ?_ | refine zaz rfl rfl ?_ | refine zbb rfl rfl ?_) | ((with_reducible refine zdg ?_); first | refine zaq (cs := [_]) rfl (fun nb => ?_) | refine zaq (cs := [_, _]) rfl (fun nb => ?_) | refine zaq (cs := [_, _, _]) rfl (fun nb => ?_) | refine zaq (cs := [_, _, _, _]) rfl (fun nb => ?_) | refine zaq (cs := [_, _, _, _, _]) rfl (fun nb => ?_) | refine zaq (cs := [_, _, _, _, _, _]) rfl (fun nb => ?_) | refine zaq (cs := [_, _, _, _, _, _, _]) rfl (fun nb => ?_) | refine zaq (cs := [_, _, _, _, _, _, _, _]) rfl (fun nb => ?_))) | refine zch ?_ | refine zci rfl ?_ | refine zcj rfl ?_)
  refine run_take [] rfl ?_
  exact ret_tmp1 rfl ⟨rfl, rfl⟩

/-! #### Entries -/
structure En where
  loc : Int
  old : Wd
  new : Int
  wr : Bool
def enL (e : En) : List Value := [.int .i64 e.loc, .int .i64 e.old.val, .int .u32 e.old.ver, .int .u32 e.old.ref, .int .i64 e.new, .bool e.wr]
def enV (e : En) : Value := .agg (List.toArray (enL e))
def wrongI (e : En) : Int :=
  if e.loc < 0 ∨ 4096 ≤ e.loc then 3 else if e.wr = true ∧ e.old.ver = 4294967295 then 9 else if e.wr = false ∧ e.new ≠ e.old.val then 4 else 0
theorem wrong_spec (w0 : World) (e : En) (h0 : e.old.ref = 0) : FnE PP w0 [] 51 [enV e] [] (.int .i64 (wrongI e)) [] := by
  obtain ⟨loc, ⟨ov, over, oref⟩, nw, wr⟩ := e
  dsimp only at h0
  subst h0
  obtain ⟨R, hR⟩ : ∃ R, R = wrongI ⟨loc, ⟨ov, over, 0⟩, nw, wr⟩ := ⟨_, rfl⟩
  rw [← hR]
  show FnE PP w0 [] _ [.agg (List.toArray [.int .i64 loc, .int .i64 ov, .int .u32 over, .int .u32 0, .int .i64 nw, .bool wr])] [] (.int .i64 R) []
  unfold wrongI at hR
  dsimp only at hR
  refine fn_of_run en51 fn51 rfl rfl rfl ?_
  by_cases h1 : loc < 0
  · rw [if_pos (.inl h1)] at hR
    repeat' (first | refine zck ?_ | refine zcp (by kernel_rfl) ?_ | refine zcq PP_mixed (by kernel_rfl) (by kernel_rfl) ?_ | refine zcm ?_ | refine zcl ?_ | refine zcn ?_ | refine zco ?_ | refine zcs rfl ?_ | (refine zap rfl ?_; first | ((with_reducible refine zct ?_); first | refine zaj rfl ?_ | refine zak rfl ?_ | refine zal rfl ?_ | refine zam rfl rfl (fun _ => ?_) (fun _ => ?_)) | ((with_reducible refine zcu ?_); refine zan rfl ?_) | ((with_reducible refine zcv ?_); refine zan rfl ?_) | ((with_reducible refine zcw ?_); first | refine zaa 0 rfl rfl rfl ?_ | refine zaa 1 rfl rfl rfl ?_ | refine zaa 2 rfl rfl rfl ?_ | refine zaa 3 rfl rfl rfl ?_ | refine zaa 4 rfl rfl rfl ?_ | refine zaa 5 rfl rfl rfl ?_ | refine zab 0 rfl rfl rfl ?_ | refine zab 1 rfl rfl rfl ?_ | refine zab 2 rfl rfl rfl ?_ | refine zab 3 rfl rfl rfl ?_ | refine zab 4 rfl rfl rfl ?_ | refine zab 5 rfl rfl rfl ?_) | ((with_reducible refine zcy ?_); refine zao rfl ?_) | ((with_reducible refine zda ?_); first | refine zbc rfl rfl (by omega) ?_ | refine zbd rfl rfl (by omega) ?_ | refine zbe rfl rfl (by omega) ?_ | refine zbf rfl rfl (by omega) ?_ | refine zbg rfl rfl (by omega) ?_ | refine zbh rfl rfl (by omega) ?_ | refine zbm rfl rfl (by omega) ?_ | refine zbn rfl rfl (by omega) ?_ | refine zbo rfl rfl ?_ | refine zbp rfl rfl ?_ | refine zbq rfl rfl ?_ | refine zbt rfl rfl ?_ | refine zaz rfl rfl ?_ | refine zbb rfl rfl ?_ | refine zba rfl rfl ?_) | ((with_reducible refine zdb ?_); first | refine zby rfl ?_ | refine zbx rfl ?_) | ((with_reducible refine zdc ?_); first | refine zbu rfl ?_ | refine zbv rfl ?_ | refine zbw rfl rfl rfl ?_) | ((with_reducible refine zdg ?_); first | refine zaq (cs := [_]) rfl (fun nb => ?_) | refine zaq (cs := [_, _]) rfl (fun nb => ?_) | refine zaq (cs := [_, _, _]) rfl (fun nb => ?_) | refine zaq (cs := [_, _, _, _]) rfl (fun nb => ?_) | refine zaq (cs := [_, _, _, _, _]) rfl (fun nb => ?_) | refine zaq (cs := [_, _, _, _, _, _]) rfl (fun nb => ?_) | refine zaq (cs := [_, _, _, _, _, _, _]) rfl (fun nb => ?_) | refine zaq (cs := [_, _, _, _, _, _, _, _]) rfl (fun nb => ?_))) | refine zch ?_ | refine zci rfl ?_ | refine zcj rfl ?_)
    refine run_take [] rfl ?_
    exact ret_tmp1 rfl ⟨by rw [hR]; rfl, rfl⟩
  · by_cases h2 : 4096 ≤ loc
    · rw [if_pos (.inr h2)] at hR
      repeat' (first | refine zck ?_ | refine zcp (by kernel_rfl) ?_ | refine zcq PP_mixed (by kernel_rfl) (by kernel_rfl) ?_ | refine zcm ?_ | refine zcl ?_ | refine zcn ?_ | refine zco ?_ | refine zcs rfl ?_ | (refine zap rfl ?_; first | ((with_reducible refine zct ?_); first | refine zaj rfl ?_ | refine zak rfl ?_ | refine zal rfl ?_ | refine zam rfl rfl (fun _ => ?_) (fun _ => ?_)) | ((with_reducible refine zcu ?_); refine zan rfl ?_) | ((with_reducible refine zcv ?_); refine zan rfl ?_) | ((with_reducible refine zcw ?_); first | refine zaa 0 rfl rfl rfl ?_ | refine zaa 1 rfl rfl rfl ?_ | refine zaa 2 rfl rfl rfl ?_ | refine zaa 3 rfl rfl rfl ?_ | refine zaa 4 rfl rfl rfl ?_ | refine zaa 5 rfl rfl rfl ?_ | refine zab 0 rfl rfl rfl ?_ | refine zab 1 rfl rfl rfl ?_ | refine zab 2 rfl rfl rfl ?_ | refine zab 3 rfl rfl rfl ?_ | refine zab 4 rfl rfl rfl ?_ | refine zab 5 rfl rfl rfl ?_) | ((with_reducible refine zcy ?_); refine zao rfl ?_) | ((with_reducible refine zda ?_); first | refine zbc rfl rfl (by omega) ?_ | refine zbd rfl rfl (by omega) ?_ | refine zbe rfl rfl (by omega) ?_ | refine zbf rfl rfl (by omega) ?_ | refine zbg rfl rfl (by omega) ?_ | refine zbh rfl rfl (by omega) ?_ | refine zbm rfl rfl (by omega) ?_ | refine zbn rfl rfl (by omega) ?_ | refine zbo rfl rfl ?_ | refine zbp rfl rfl ?_ | refine zbq rfl rfl ?_ | refine zbt rfl rfl ?_ | refine zaz rfl rfl ?_ | refine zbb rfl rfl ?_ | refine zba rfl rfl ?_) | ((with_reducible refine zdb ?_); first | refine zby rfl ?_ | refine zbx rfl ?_) | ((with_reducible refine zdc ?_); first | refine zbu rfl ?_ | refine zbv rfl ?_ | refine zbw rfl rfl rfl ?_) | ((with_reducible refine zdg ?_); first | refine zaq (cs := [_]) rfl (fun nb => ?_) | refine zaq (cs := [_, _]) rfl (fun nb => ?_) | refine zaq (cs := [_, _, _]) rfl (fun nb => ?_) | refine zaq (cs := [_, _, _, _]) rfl (fun nb => ?_) | refine zaq (cs := [_, _, _, _, _]) rfl (fun nb => ?_) | refine zaq (cs := [_, _, _, _, _, _]) rfl (fun nb => ?_) | refine zaq (cs := [_, _, _, _, _, _, _]) rfl (fun nb => ?_) | refine zaq (cs := [_, _, _, _, _, _, _, _]) rfl (fun nb => ?_))) | refine zch ?_ | refine zci rfl ?_ | refine zcj rfl ?_)
      refine run_take [] rfl ?_
      exact ret_tmp1 rfl ⟨by rw [hR]; rfl, rfl⟩
    · rw [if_neg (by omega)] at hR
      cases wr with
      | false =>
        repeat' (first | refine zck ?_ | refine zcp (by kernel_rfl) ?_ | refine zcq PP_mixed (by kernel_rfl) (by kernel_rfl) ?_ | refine zcm ?_ | refine zcl ?_ | refine zcn ?_ | refine zco ?_ | refine zcs rfl ?_ | (refine zap rfl ?_; first | ((with_reducible refine zct ?_); first | refine zaj rfl ?_ | refine zak rfl ?_ | refine zal rfl ?_ | refine zam rfl rfl (fun _ => ?_) (fun _ => ?_)) | ((with_reducible refine zcu ?_); refine zan rfl ?_) | ((with_reducible refine zcv ?_); refine zan rfl ?_) | ((with_reducible refine zcw ?_); first | refine zaa 0 rfl rfl rfl ?_ | refine zaa 1 rfl rfl rfl ?_ | refine zaa 2 rfl rfl rfl ?_ | refine zaa 3 rfl rfl rfl ?_ | refine zaa 4 rfl rfl rfl ?_ | refine zaa 5 rfl rfl rfl ?_ | refine zab 0 rfl rfl rfl ?_ | refine zab 1 rfl rfl rfl ?_ | refine zab 2 rfl rfl rfl ?_ | refine zab 3 rfl rfl rfl ?_ | refine zab 4 rfl rfl rfl ?_ | refine zab 5 rfl rfl rfl ?_) | ((with_reducible refine zcx ?_); refine zah [] (plain0_spec w0 ov over) rfl rfl rfl sub_nil rfl ?_) | ((with_reducible refine zcy ?_); refine zao rfl ?_) | ((with_reducible refine zda ?_); first | refine zbc rfl rfl (by omega) ?_ | refine zbd rfl rfl (by omega) ?_ | refine zbe rfl rfl (by omega) ?_ | refine zbf rfl rfl (by omega) ?_ | refine zbg rfl rfl (by omega) ?_ | refine zbh rfl rfl (by omega) ?_ | refine zbm rfl rfl (by omega) ?_ | refine zbn rfl rfl (by omega) ?_ | refine zbo rfl rfl ?_ | refine zbp rfl rfl ?_ | refine zbq rfl rfl ?_ | refine zbt rfl rfl ?_ | refine zaz rfl rfl ?_ | refine zbb rfl rfl ?_ | refine zba rfl rfl ?_) | ((with_reducible refine zdb ?_); first | refine zby rfl ?_ | refine zbx rfl ?_) | ((with_reducible refine zdc ?_); first | refine zbu rfl ?_ | refine zbv rfl ?_ | refine zbw rfl rfl rfl ?_) | ((with_reducible refine zdg ?_); first | refine zaq (cs := [_]) rfl (fun nb => ?_) | refine zaq (cs := [_, _]) rfl (fun nb => ?_) | refine zaq (cs := [_, _, _]) rfl (fun nb => ?_) | refine zaq (cs := [_, _, _, _]) rfl (fun nb => ?_) | refine zaq (cs := [_, _, _, _, _]) rfl (fun nb => ?_) | refine zaq (cs := [_, _, _, _, _, _]) rfl (fun nb => ?_) | refine zaq (cs := [_, _, _, _, _, _, _]) rfl (fun nb => ?_) | refine zaq (cs := [_, _, _, _, _, _, _, _]) rfl (fun nb => ?_))) | refine zch ?_ | refine zci rfl ?_ | refine zcj rfl ?_)
        refine run_cond rfl (fun hE => ?_) (fun hE => ?_)
        · rw [if_neg (by simp), if_pos ⟨rfl, hE⟩] at hR
          repeat' (first | refine zck ?_ | refine zcp (by kernel_rfl) ?_ | refine zcq PP_mixed (by kernel_rfl) (by kernel_rfl) ?_ | refine zcm ?_ | refine zcl ?_ | refine zcn ?_ | refine zco ?_ | refine zcs rfl ?_ | (refine zap rfl ?_; first | ((with_reducible refine zct ?_); first | refine zaj rfl ?_ | refine zak rfl ?_ | refine zal rfl ?_ | refine zam rfl rfl (fun _ => ?_) (fun _ => ?_)) | ((with_reducible refine zcu ?_); refine zan rfl ?_) | ((with_reducible refine zcv ?_); refine zan rfl ?_) | ((with_reducible refine zcw ?_); first | refine zaa 0 rfl rfl rfl ?_ | refine zaa 1 rfl rfl rfl ?_ | refine zaa 2 rfl rfl rfl ?_ | refine zaa 3 rfl rfl rfl ?_ | refine zaa 4 rfl rfl rfl ?_ | refine zaa 5 rfl rfl rfl ?_ | refine zab 0 rfl rfl rfl ?_ | refine zab 1 rfl rfl rfl ?_ | refine zab 2 rfl rfl rfl ?_ | refine zab 3 rfl rfl rfl ?_ | refine zab 4 rfl rfl rfl ?_ | refine zab 5 rfl rfl rfl ?_) | ((with_reducible refine zcy ?_); refine zao rfl ?_) | ((with_reducible refine zda ?_); first | refine zbc rfl rfl (by omega) ?_ | refine zbd rfl rfl (by omega) ?_ | refine zbe rfl rfl (by omega) ?_ | refine zbf rfl rfl (by omega) ?_ | refine zbg rfl rfl (by omega) ?_ | refine zbh rfl rfl (by omega) ?_ | refine zbm rfl rfl (by omega) ?_ | refine zbn rfl rfl (by omega) ?_ | refine zbo rfl rfl ?_ | refine zbp rfl rfl ?_ | refine zbq rfl rfl ?_ | refine zbt rfl rfl ?_ | refine zaz rfl rfl ?_ | refine zbb rfl rfl ?_ | refine zba rfl rfl ?_) | ((with_reducible refine zdb ?_); first | refine zby rfl ?_ | refine zbx rfl ?_) | ((with_reducible refine zdc ?_); first | refine zbu rfl ?_ | refine zbv rfl ?_ | refine zbw rfl rfl rfl ?_) | ((with_reducible refine zdg ?_); first | refine zaq (cs := [_]) rfl (fun nb => ?_) | refine zaq (cs := [_, _]) rfl (fun nb => ?_) | refine zaq (cs := [_, _, _]) rfl (fun nb => ?_) | refine zaq (cs := [_, _, _, _]) rfl (fun nb => ?_) | refine zaq (cs := [_, _, _, _, _]) rfl (fun nb => ?_) | refine zaq (cs := [_, _, _, _, _, _]) rfl (fun nb => ?_) | refine zaq (cs := [_, _, _, _, _, _, _]) rfl (fun nb => ?_) | refine zaq (cs := [_, _, _, _, _, _, _, _]) rfl (fun nb => ?_))) | refine zch ?_ | refine zci rfl ?_ | refine zcj rfl ?_)
          refine run_take [] rfl ?_
          exact ret_tmp1 rfl ⟨by rw [hR]; rfl, rfl⟩
        · rw [if_neg (by simp), if_neg (fun h => hE h.2)] at hR
          repeat' (first | refine zck ?_ | refine zcp (by kernel_rfl) ?_ | refine zcq PP_mixed (by kernel_rfl) (by kernel_rfl) ?_ | refine zcm ?_ | refine zcl ?_ | refine zcn ?_ | refine zco ?_ | refine zcs rfl ?_ | (refine zap rfl ?_; first | ((with_reducible refine zct ?_); first | refine zaj rfl ?_ | refine zak rfl ?_ | refine zal rfl ?_ | refine zam rfl rfl (fun _ => ?_) (fun _ => ?_)) | ((with_reducible refine zcu ?_); refine zan rfl ?_) | ((with_reducible refine zcv ?_); refine zan rfl ?_) | ((with_reducible refine zcw ?_); first | refine zaa 0 rfl rfl rfl ?_ | refine zaa 1 rfl rfl rfl ?_ | refine zaa 2 rfl rfl rfl ?_ | refine zaa 3 rfl rfl rfl ?_ | refine zaa 4 rfl rfl rfl ?_ | refine zaa 5 rfl rfl rfl ?_ | refine zab 0 rfl rfl rfl ?_ | refine zab 1 rfl rfl rfl ?_ | refine zab 2 rfl rfl rfl ?_ | refine zab 3 rfl rfl rfl ?_ | refine zab 4 rfl rfl rfl ?_ | refine zab 5 rfl rfl rfl ?_) | ((with_reducible refine zcy ?_); refine zao rfl ?_) | ((with_reducible refine zda ?_); first | refine zbc rfl rfl (by omega) ?_ | refine zbd rfl rfl (by omega) ?_ | refine zbe rfl rfl (by omega) ?_ | refine zbf rfl rfl (by omega) ?_ | refine zbg rfl rfl (by omega) ?_ | refine zbh rfl rfl (by omega) ?_ | refine zbm rfl rfl (by omega) ?_ | refine zbn rfl rfl (by omega) ?_ | refine zbo rfl rfl ?_ | refine zbp rfl rfl ?_ | refine zbq rfl rfl ?_ | refine zbt rfl rfl ?_ | refine zaz rfl rfl ?_ | refine zbb rfl rfl ?_ | refine zba rfl rfl ?_) | ((with_reducible refine zdb ?_); first | refine zby rfl ?_ | refine zbx rfl ?_) | ((with_reducible refine zdc ?_); first | refine zbu rfl ?_ | refine zbv rfl ?_ | refine zbw rfl rfl rfl ?_) | ((with_reducible refine zdg ?_); first | refine zaq (cs := [_]) rfl (fun nb => ?_) | refine zaq (cs := [_, _]) rfl (fun nb => ?_) | refine zaq (cs := [_, _, _]) rfl (fun nb => ?_) | refine zaq (cs := [_, _, _, _]) rfl (fun nb => ?_) | refine zaq (cs := [_, _, _, _, _]) rfl (fun nb => ?_) | refine zaq (cs := [_, _, _, _, _, _]) rfl (fun nb => ?_) | refine zaq (cs := [_, _, _, _, _, _, _]) rfl (fun nb => ?_) | refine zaq (cs := [_, _, _, _, _, _, _, _]) rfl (fun nb => ?_))) | refine zch ?_ | refine zci rfl ?_ | refine zcj rfl ?_)
          refine run_take [] rfl ?_
          exact ret_tmp1 rfl ⟨by rw [hR]; rfl, rfl⟩
      | true =>
        repeat' (first | refine zck ?_ | refine zcp (by kernel_rfl) ?_ | refine zcq PP_mixed (by kernel_rfl) (by kernel_rfl) ?_ | refine zcm ?_ | refine zcl ?_ | refine zcn ?_ | refine zco ?_ | refine zcs rfl ?_ | (refine zap rfl ?_; first | ((with_reducible refine zct ?_); first | refine zaj rfl ?_ | refine zak rfl ?_ | refine zal rfl ?_ | refine zam rfl rfl (fun _ => ?_) (fun _ => ?_)) | ((with_reducible refine zcu ?_); refine zan rfl ?_) | ((with_reducible refine zcv ?_); refine zan rfl ?_) | ((with_reducible refine zcw ?_); first | refine zaa 0 rfl rfl rfl ?_ | refine zaa 1 rfl rfl rfl ?_ | refine zaa 2 rfl rfl rfl ?_ | refine zaa 3 rfl rfl rfl ?_ | refine zaa 4 rfl rfl rfl ?_ | refine zaa 5 rfl rfl rfl ?_ | refine zab 0 rfl rfl rfl ?_ | refine zab 1 rfl rfl rfl ?_ | refine zab 2 rfl rfl rfl ?_ | refine zab 3 rfl rfl rfl ?_ | refine zab 4 rfl rfl rfl ?_ | refine zab 5 rfl rfl rfl ?_) | ((with_reducible refine zcx ?_); refine zah [] (plain0_spec w0 ov over) rfl rfl rfl sub_nil rfl ?_) | ((with_reducible refine zcy ?_); refine zao rfl ?_) | ((with_reducible refine zda ?_); first | refine zbc rfl rfl (by omega) ?_ | refine zbd rfl rfl (by omega) ?_ | refine zbe rfl rfl (by omega) ?_ | refine zbf rfl rfl (by omega) ?_ | refine zbg rfl rfl (by omega) ?_ | refine zbh rfl rfl (by omega) ?_ | refine zbm rfl rfl (by omega) ?_ | refine zbn rfl rfl (by omega) ?_ | refine zbo rfl rfl ?_ | refine zbp rfl rfl ?_ | refine zbq rfl rfl ?_ | refine zbt rfl rfl ?_ | refine zaz rfl rfl ?_ | refine zbb rfl rfl ?_ | refine zba rfl rfl ?_) | ((with_reducible refine zdb ?_); first | refine zby rfl ?_ | refine zbx rfl ?_) | ((with_reducible refine zdc ?_); first | refine zbu rfl ?_ | refine zbv rfl ?_ | refine zbw rfl rfl rfl ?_) | ((with_reducible refine zdg ?_); first | refine zaq (cs := [_]) rfl (fun nb => ?_) | refine zaq (cs := [_, _]) rfl (fun nb => ?_) | refine zaq (cs := [_, _, _]) rfl (fun nb => ?_) | refine zaq (cs := [_, _, _, _]) rfl (fun nb => ?_) | refine zaq (cs := [_, _, _, _, _]) rfl (fun nb => ?_) | refine zaq (cs := [_, _, _, _, _, _]) rfl (fun nb => ?_) | refine zaq (cs := [_, _, _, _, _, _, _]) rfl (fun nb => ?_) | refine zaq (cs := [_, _, _, _, _, _, _, _]) rfl (fun nb => ?_))) | refine zch ?_ | refine zci rfl ?_ | refine zcj rfl ?_)
        refine run_cond rfl (fun hE => ?_) (fun hE => ?_)
        · rw [if_pos ⟨rfl, hE⟩] at hR
          repeat' (first | refine zck ?_ | refine zcp (by kernel_rfl) ?_ | refine zcq PP_mixed (by kernel_rfl) (by kernel_rfl) ?_ | refine zcm ?_ | refine zcl ?_ | refine zcn ?_ | refine zco ?_ | refine zcs rfl ?_ | (refine zap rfl ?_; first | ((with_reducible refine zct ?_); first | refine zaj rfl ?_ | refine zak rfl ?_ | refine zal rfl ?_ | refine zam rfl rfl (fun _ => ?_) (fun _ => ?_)) | ((with_reducible refine zcu ?_); refine zan rfl ?_) | ((with_reducible refine zcv ?_); refine zan rfl ?_) | ((with_reducible refine zcw ?_); first | refine zaa 0 rfl rfl rfl ?_ | refine zaa 1 rfl rfl rfl ?_ | refine zaa 2 rfl rfl rfl ?_ | refine zaa 3 rfl rfl rfl ?_ | refine zaa 4 rfl rfl rfl ?_ | refine zaa 5 rfl rfl rfl ?_ | refine zab 0 rfl rfl rfl ?_ | refine zab 1 rfl rfl rfl ?_ | refine zab 2 rfl rfl rfl ?_ | refine zab 3 rfl rfl rfl ?_ | refine zab 4 rfl rfl rfl ?_ | refine zab 5 rfl rfl rfl ?_) | ((with_reducible refine zcy ?_); refine zao rfl ?_) | ((with_reducible refine zda ?_); first | refine zbc rfl rfl (by omega) ?_ | refine zbd rfl rfl (by omega) ?_ | refine zbe rfl rfl (by omega) ?_ | refine zbf rfl rfl (by omega) ?_ | refine zbg rfl rfl (by omega) ?_ | refine zbh rfl rfl (by omega) ?_ | refine zbm rfl rfl (by omega) ?_ | refine zbn rfl rfl (by omega) ?_ | refine zbo rfl rfl ?_ | refine zbp rfl rfl ?_ | refine zbq rfl rfl ?_ | refine zbt rfl rfl ?_ | refine zaz rfl rfl ?_ | refine zbb rfl rfl ?_ | refine zba rfl rfl ?_) | ((with_reducible refine zdb ?_); first | refine zby rfl ?_ | refine zbx rfl ?_) | ((with_reducible refine zdc ?_); first | refine zbu rfl ?_ | refine zbv rfl ?_ | refine zbw rfl rfl rfl ?_) | ((with_reducible refine zdg ?_); first | refine zaq (cs := [_]) rfl (fun nb => ?_) | refine zaq (cs := [_, _]) rfl (fun nb => ?_) | refine zaq (cs := [_, _, _]) rfl (fun nb => ?_) | refine zaq (cs := [_, _, _, _]) rfl (fun nb => ?_) | refine zaq (cs := [_, _, _, _, _]) rfl (fun nb => ?_) | refine zaq (cs := [_, _, _, _, _, _]) rfl (fun nb => ?_) | refine zaq (cs := [_, _, _, _, _, _, _]) rfl (fun nb => ?_) | refine zaq (cs := [_, _, _, _, _, _, _, _]) rfl (fun nb => ?_))) | refine zch ?_ | refine zci rfl ?_ | refine zcj rfl ?_)
          refine run_take [] rfl ?_
          exact ret_tmp1 rfl ⟨by rw [hR]; rfl, rfl⟩
        · rw [if_neg (fun h => hE h.2), if_neg (by simp)] at hR
          repeat' (first | refine zck ?_ | refine zcp (by kernel_rfl) ?_ | refine zcq PP_mixed (by kernel_rfl) (by kernel_rfl) ?_ | refine zcm ?_ | refine zcl ?_ | refine zcn ?_ | refine zco ?_ | refine zcs rfl ?_ | (refine zap rfl ?_; first | ((with_reducible refine zct ?_); first | refine zaj rfl ?_ | refine zak rfl ?_ | refine zal rfl ?_ | refine zam rfl rfl (fun _ => ?_) (fun _ => ?_)) | ((with_reducible refine zcu ?_); refine zan rfl ?_) | ((with_reducible refine zcv ?_); refine zan rfl ?_) | ((with_reducible refine zcw ?_); first | refine zaa 0 rfl rfl rfl ?_ | refine zaa 1 rfl rfl rfl ?_ | refine zaa 2 rfl rfl rfl ?_ | refine zaa 3 rfl rfl rfl ?_ | refine zaa 4 rfl rfl rfl ?_ | refine zaa 5 rfl rfl rfl ?_ | refine zab 0 rfl rfl rfl ?_ | refine zab 1 rfl rfl rfl ?_ | refine zab 2 rfl rfl rfl ?_ | refine zab 3 rfl rfl rfl ?_ | refine zab 4 rfl rfl rfl ?_ | refine zab 5 rfl rfl rfl ?_) | ((with_reducible refine zcy ?_); refine zao rfl ?_) | ((with_reducible refine zda ?_); first | refine zbc rfl rfl (by omega) ?_ | refine zbd rfl rfl (by omega) ?_ | refine zbe rfl rfl (by omega) ?_ | refine zbf rfl rfl (by omega) ?_ | refine zbg rfl rfl (by omega) ?_ | refine zbh rfl rfl (by omega) ?_ | refine zbm rfl rfl (by omega) ?_ | refine zbn rfl rfl (by omega) ?_ | refine zbo rfl rfl ?_ | refine zbp rfl rfl ?_ | refine zbq rfl rfl ?_ | refine zbt rfl rfl ?_ | refine zaz rfl rfl ?_ | refine zbb rfl rfl ?_ | refine zba rfl rfl ?_) | ((with_reducible refine zdb ?_); first | refine zby rfl ?_ | refine zbx rfl ?_) | ((with_reducible refine zdc ?_); first | refine zbu rfl ?_ | refine zbv rfl ?_ | refine zbw rfl rfl rfl ?_) | ((with_reducible refine zdg ?_); first | refine zaq (cs := [_]) rfl (fun nb => ?_) | refine zaq (cs := [_, _]) rfl (fun nb => ?_) | refine zaq (cs := [_, _, _]) rfl (fun nb => ?_) | refine zaq (cs := [_, _, _, _]) rfl (fun nb => ?_) | refine zaq (cs := [_, _, _, _, _]) rfl (fun nb => ?_) | refine zaq (cs := [_, _, _, _, _, _]) rfl (fun nb => ?_) | refine zaq (cs := [_, _, _, _, _, _, _]) rfl (fun nb => ?_) | refine zaq (cs := [_, _, _, _, _, _, _, _]) rfl (fun nb => ?_))) | refine zch ?_ | refine zci rfl ?_ | refine zcj rfl ?_)
          refine run_take [] rfl ?_
          exact ret_tmp1 rfl ⟨by rw [hR]; rfl, rfl⟩
end Go.Proofs.YtilnknokgflkjaaDoor

/- slices.ContainsFunc and entry.Check. -/
namespace Go.Proofs.YtilnknokgflkjaaDoor
open Go.Vc Sim
def flatE : List En → List Value
  | [] => []
  | e :: l => enL e ++ flatE l
theorem flatE_len : ∀ l : List En, (flatE l).length = l.length * 6
  | [] => rfl
  | e :: l => by simp only [flatE, List.length_append, flatE_len l, List.length_cons]; simp [enL]; omega
theorem flatE_get : ∀ (l : List En) (i : Nat) (e : En) (k : Nat) (u : Value), l[i]? = some e → (enL e)[k]? = some u → (flatE l)[i * 6 + k]? = some u
  | [], i, e, k, u, h, _ => by simp at h
  | x :: l, 0, e, k, u, h, hk => by
    simp at h; subst h
    have hl := (List.getElem?_eq_some_iff.1 hk).1
    simp only [flatE, Nat.zero_mul, Nat.zero_add]
    rw [List.getElem?_append_left hl]; exact hk
  | x :: l, i + 1, e, k, u, h, hk => by
    have := flatE_get l i e k u (by simpa using h) hk
    simp only [flatE]
    rw [List.getElem?_append_right (by simp [enL]; omega)]
    have e6 : (i + 1) * 6 + k - (enL x).length = i * 6 + k := by simp [enL]; omega
    rw [e6]; exact this
theorem flatE_rd {l : List En} {i : Nat} {e : En} (h : l[i]? = some e) (o : Nat) (ho : o = i * 6) : rd true 6 (flatE l) o = some (enV e) := by
  have := rd_cells (c := (flatE l).toArray) (o := i * 6) (q := 6) (vs := enL e) rfl (fun k u hk => by simpa using flatE_get l i e k u h hk) o ho
  exact this
theorem chk1_spec (w0 : World) (x y : En) (xc : Nat) : FnE PP w0 [] 53 [enV y, .pointer (some ⟨xc, 0, none⟩)] [pt xc (.cells (List.toArray (enL x)) 66 (0, 0))] (.bool (decide (y.loc = x.loc))) [pt xc (.cells (List.toArray (enL x)) 66 (0, 0))] := by
  obtain ⟨xl, ⟨xv, xr, xf⟩, xn, xw⟩ := x
  obtain ⟨yl, ⟨yv, yr, yf⟩, yn, yw⟩ := y
  show FnE PP w0 [] _ [.agg (List.toArray [.int .i64 yl, .int .i64 yv, .int .u32 yr, .int .u32 yf, .int .i64 yn, .bool yw]), .pointer (some ⟨xc, 0, none⟩)] [pt xc (.cells (List.toArray [.int .i64 xl, .int .i64 xv, .int .u32 xr, .int .u32 xf, .int .i64 xn, .bool xw]) _ (0, 0))] (.bool (decide (yl = xl))) [pt xc (.cells (List.toArray [.int .i64 xl, .int .i64 xv, .int .u32 xr, .int .u32 xf, .int .i64 xn, .bool xw]) _ (0, 0))]
  refine fn_of_run en53 fn53 rfl rfl rfl ?_
  repeat' (first | refine zck ?_ | refine zcp (by kernel_rfl) ?_ | refine zcq PP_mixed (by kernel_rfl) (by kernel_rfl) ?_ | refine zcm ?_ | refine zcl ?_ | refine zcn ?_ | refine zco ?_ | refine zcs rfl ?_ | (refine zap rfl ?_; first | ((with_reducible refine zcv ?_); refine zan rfl ?_) | ((with_reducible refine zcw ?_); first | refine zaa 0 rfl rfl rfl ?_ | refine zaa 1 rfl rfl rfl ?_ | refine zaa 2 rfl rfl rfl ?_ | refine zaa 3 rfl rfl rfl ?_ | refine zaa 4 rfl rfl rfl ?_ | refine zaa 5 rfl rfl rfl ?_ | refine zab 0 rfl rfl rfl ?_ | refine zab 1 rfl rfl rfl ?_ | refine zab 2 rfl rfl rfl ?_ | refine zab 3 rfl rfl rfl ?_ | refine zab 4 rfl rfl rfl ?_ | refine zab 5 rfl rfl rfl ?_) | ((with_reducible refine zcy ?_); refine zao rfl ?_) | ((with_reducible refine zda ?_); first | refine zbo rfl rfl ?_ | refine zaz rfl rfl ?_ | refine zbb rfl rfl ?_) | ((with_reducible refine zdg ?_); first | refine zaq (cs := [_]) rfl (fun nb => ?_) | refine zaq (cs := [_, _]) rfl (fun nb => ?_) | refine zaq (cs := [_, _, _]) rfl (fun nb => ?_) | refine zaq (cs := [_, _, _, _]) rfl (fun nb => ?_) | refine zaq (cs := [_, _, _, _, _]) rfl (fun nb => ?_) | refine zaq (cs := [_, _, _, _, _, _]) rfl (fun nb => ?_) | refine zaq (cs := [_, _, _, _, _, _, _]) rfl (fun nb => ?_) | refine zaq (cs := [_, _, _, _, _, _, _, _]) rfl (fun nb => ?_))) | refine zch ?_ | refine zci rfl ?_ | refine zcj rfl ?_)
  refine run_take [0] rfl ?_
  exact ret_tmp1 rfl ⟨rfl, rfl⟩
def idxI (x : Int) : List En → Int → Int
  | [], _ => -1
  | e :: l, k => if e.loc = x then k else idxI x l (k + 1)
abbrev EnA (a : Option Addr) (cap : Nat) (es : List En) : Asn := SlA 66 6 a es.length cap (flatE es)
abbrev EnC (xc : Nat) (x : En) : Asn := pt xc (.cells (List.toArray (enL x)) 66 (0, 0))
abbrev ChkF (xc : Nat) : Value := .func (.func 53) #[] #[.pointer (some ⟨xc, 0, none⟩)]
theorem idx_spec (w0 : World) (a : Option Addr) (cap : Nat) (es : List En) (x : En) (xc i : Nat) (hi : i ≤ es.length) (hl : es.length ≤ 1099511627776) :
    FnE PP w0 [] 57 [.slice a i cap, ChkF xc] [EnA a cap es, EnC xc x] (.int .i64 (idxI x.loc (es.take i) 0)) [EnA a cap es, EnC xc x] := by
  refine fn_of_run en57 fn57 rfl rfl rfl ?_
  refine run_sl_cases 0 rfl ?_ ?_
  · intro h1 h2 h3 h4
    have hi0 : i = 0 := by omega
    subst hi0
    repeat' (first | refine zck ?_ | refine zcp (by kernel_rfl) ?_ | refine zcq PP_mixed (by kernel_rfl) (by kernel_rfl) ?_ | refine zcm ?_ | refine zcl ?_ | refine zcn ?_ | refine zco ?_ | refine zcs rfl ?_ | (refine zap rfl ?_; first | ((with_reducible refine zcu ?_); refine zan rfl ?_) | ((with_reducible refine zcv ?_); refine zan rfl ?_) | ((with_reducible refine zcw ?_); first | refine zaa 0 rfl rfl rfl ?_ | refine zaa 1 rfl rfl rfl ?_ | refine zaa 2 rfl rfl rfl ?_ | refine zaa 3 rfl rfl rfl ?_ | refine zaa 4 rfl rfl rfl ?_ | refine zaa 5 rfl rfl rfl ?_ | refine zab 0 rfl rfl rfl ?_ | refine zab 1 rfl rfl rfl ?_ | refine zab 2 rfl rfl rfl ?_ | refine zab 3 rfl rfl rfl ?_ | refine zab 4 rfl rfl rfl ?_ | refine zab 5 rfl rfl rfl ?_) | ((with_reducible refine zcx ?_); refine zce rfl ?_) | ((with_reducible refine zda ?_); first | refine zbg rfl rfl (by omega) ?_ | refine zbh rfl rfl (by omega) ?_ | refine zau rfl rfl (by omega) ?_ | refine zbq rfl rfl ?_) | ((with_reducible refine zdf ?_); first | refine zas rfl rfl (by omega) ?_ | refine zat rfl rfl (by omega) ?_)) | refine zch ?_ | refine zci rfl ?_ | refine zcj rfl ?_)
    refine run_loop1 ?_
    repeat' (first | refine zck ?_ | refine zcp (by kernel_rfl) ?_ | refine zcq PP_mixed (by kernel_rfl) (by kernel_rfl) ?_ | refine zcm ?_ | refine zcl ?_ | refine zcn ?_ | refine zco ?_ | refine zcs rfl ?_ | (refine zap rfl ?_; first | ((with_reducible refine zcu ?_); refine zan rfl ?_) | ((with_reducible refine zcv ?_); refine zan rfl ?_) | ((with_reducible refine zcw ?_); first | refine zaa 0 rfl rfl rfl ?_ | refine zaa 1 rfl rfl rfl ?_ | refine zaa 2 rfl rfl rfl ?_ | refine zaa 3 rfl rfl rfl ?_ | refine zaa 4 rfl rfl rfl ?_ | refine zaa 5 rfl rfl rfl ?_ | refine zab 0 rfl rfl rfl ?_ | refine zab 1 rfl rfl rfl ?_ | refine zab 2 rfl rfl rfl ?_ | refine zab 3 rfl rfl rfl ?_ | refine zab 4 rfl rfl rfl ?_ | refine zab 5 rfl rfl rfl ?_) | ((with_reducible refine zcx ?_); refine zce rfl ?_) | ((with_reducible refine zda ?_); first | refine zbg rfl rfl (by omega) ?_ | refine zbh rfl rfl (by omega) ?_ | refine zau rfl rfl (by omega) ?_ | refine zbq rfl rfl ?_) | ((with_reducible refine zdf ?_); first | refine zas rfl rfl (by omega) ?_ | refine zat rfl rfl (by omega) ?_)) | refine zch ?_ | refine zci rfl ?_ | refine zcj rfl ?_)
    exact ret_tmp1 rfl ⟨rfl, rfl⟩
  · intro bb h1 h2 h3
    subst h1
    repeat' (first | refine zck ?_ | refine zcp (by kernel_rfl) ?_ | refine zcq PP_mixed (by kernel_rfl) (by kernel_rfl) ?_ | refine zcm ?_ | refine zcl ?_ | refine zcn ?_ | refine zco ?_ | refine zcs rfl ?_ | (refine zap rfl ?_; first | ((with_reducible refine zcu ?_); refine zan rfl ?_) | ((with_reducible refine zcv ?_); refine zan rfl ?_) | ((with_reducible refine zcw ?_); first | refine zaa 0 rfl rfl rfl ?_ | refine zaa 1 rfl rfl rfl ?_ | refine zaa 2 rfl rfl rfl ?_ | refine zaa 3 rfl rfl rfl ?_ | refine zaa 4 rfl rfl rfl ?_ | refine zaa 5 rfl rfl rfl ?_ | refine zab 0 rfl rfl rfl ?_ | refine zab 1 rfl rfl rfl ?_ | refine zab 2 rfl rfl rfl ?_ | refine zab 3 rfl rfl rfl ?_ | refine zab 4 rfl rfl rfl ?_ | refine zab 5 rfl rfl rfl ?_) | ((with_reducible refine zcx ?_); refine zce rfl ?_) | ((with_reducible refine zda ?_); first | refine zbg rfl rfl (by omega) ?_ | refine zbh rfl rfl (by omega) ?_ | refine zau rfl rfl (by omega) ?_ | refine zbq rfl rfl ?_) | ((with_reducible refine zdf ?_); first | refine zas rfl rfl (by omega) ?_ | refine zat rfl rfl (by omega) ?_)) | refine zch ?_ | refine zci rfl ?_ | refine zcj rfl ?_)
    refine run_loop (S := Nat) (fun j => [(0, .slice (some ⟨bb, 0, none⟩) i cap), (1, ChkF xc), (7, .int .i64 i), (8, .int .i64 j)])
      (fun j Γ => Γ = [EnA (some ⟨bb, 0, none⟩) cap es, EnC xc x] ∧ j ≤ i ∧ idxI x.loc ((es.take i).drop j) j = idxI x.loc (es.take i) 0)
      (fun j => i - j) 0 ⟨rfl, rfl, rfl, rfl, trivial⟩ ⟨rfl, by omega, rfl⟩ ?_
    rintro j Γ junk ⟨rfl, g1, g2⟩
    by_cases hj : j < i
    · obtain ⟨e, he⟩ : ∃ e, es[j]? = some e := ⟨_, List.getElem?_eq_getElem (by omega)⟩
      have hd : (es.take i).drop j = e :: (es.take i).drop (j + 1) := by
        have hlt : j < (es.take i).length := by simp; omega
        rw [List.drop_eq_getElem_cons hlt]
        congr 1
        have : (es.take i)[j]? = some e := by rw [List.getElem?_take_of_lt hj]; exact he
        exact (List.getElem?_eq_some_iff.1 this).2
      have hr := flatE_rd he
      repeat' (first | refine zck ?_ | refine zcp (by kernel_rfl) ?_ | refine zcq PP_mixed (by kernel_rfl) (by kernel_rfl) ?_ | refine zcm ?_ | refine zcl ?_ | refine zcn ?_ | refine zco ?_ | refine zcs rfl ?_ | (refine zap rfl ?_; first | refine zag 0 rfl rfl (hr _ (by omega)) (by intro _; omega) ?_ | ((with_reducible refine zcu ?_); refine zan rfl ?_) | ((with_reducible refine zcv ?_); refine zan rfl ?_) | ((with_reducible refine zcw ?_); first | refine zaa 0 rfl rfl rfl ?_ | refine zaa 1 rfl rfl rfl ?_ | refine zaa 2 rfl rfl rfl ?_ | refine zaa 3 rfl rfl rfl ?_ | refine zaa 4 rfl rfl rfl ?_ | refine zaa 5 rfl rfl rfl ?_ | refine zab 0 rfl rfl rfl ?_ | refine zab 1 rfl rfl rfl ?_ | refine zab 2 rfl rfl rfl ?_ | refine zab 3 rfl rfl rfl ?_ | refine zab 4 rfl rfl rfl ?_ | refine zab 5 rfl rfl rfl ?_) | ((with_reducible refine zcx ?_); first | refine zah [1] (chk1_spec w0 x e xc) rfl rfl rfl sub_nil rfl ?_ | refine zce rfl ?_) | ((with_reducible refine zda ?_); first | refine zbg rfl rfl (by omega) ?_ | refine zbh rfl rfl (by omega) ?_ | refine zau rfl rfl (by omega) ?_ | refine zbq rfl rfl ?_) | ((with_reducible refine zdf ?_); first | refine zas rfl rfl (by omega) ?_ | refine zat rfl rfl (by omega) ?_)) | refine zch ?_ | refine zci rfl ?_ | refine zcj rfl ?_)
      refine run_perm (List.Perm.swap _ _ _) ?_
      rw [hd, idxI] at g2
      refine run_cond rfl (fun hE => ?_) (fun hE => ?_)
      · rw [if_pos hE] at g2
        repeat' (first | refine zck ?_ | refine zcp (by kernel_rfl) ?_ | refine zcq PP_mixed (by kernel_rfl) (by kernel_rfl) ?_ | refine zcm ?_ | refine zcl ?_ | refine zcn ?_ | refine zco ?_ | refine zcs rfl ?_ | (refine zap rfl ?_; first | ((with_reducible refine zcu ?_); refine zan rfl ?_) | ((with_reducible refine zcv ?_); refine zan rfl ?_) | ((with_reducible refine zcw ?_); first | refine zaa 0 rfl rfl rfl ?_ | refine zaa 1 rfl rfl rfl ?_ | refine zaa 2 rfl rfl rfl ?_ | refine zaa 3 rfl rfl rfl ?_ | refine zaa 4 rfl rfl rfl ?_ | refine zaa 5 rfl rfl rfl ?_ | refine zab 0 rfl rfl rfl ?_ | refine zab 1 rfl rfl rfl ?_ | refine zab 2 rfl rfl rfl ?_ | refine zab 3 rfl rfl rfl ?_ | refine zab 4 rfl rfl rfl ?_ | refine zab 5 rfl rfl rfl ?_) | ((with_reducible refine zcx ?_); refine zce rfl ?_) | ((with_reducible refine zda ?_); first | refine zbg rfl rfl (by omega) ?_ | refine zbh rfl rfl (by omega) ?_ | refine zau rfl rfl (by omega) ?_ | refine zbq rfl rfl ?_) | ((with_reducible refine zdf ?_); first | refine zas rfl rfl (by omega) ?_ | refine zat rfl rfl (by omega) ?_)) | refine zch ?_ | refine zci rfl ?_ | refine zcj rfl ?_)
        exact qret1 (fun _ _ h => h) rfl ⟨by rw [← g2]; rfl, rfl⟩
      · rw [if_neg hE] at g2
        repeat' (first | refine zck ?_ | refine zcp (by kernel_rfl) ?_ | refine zcq PP_mixed (by kernel_rfl) (by kernel_rfl) ?_ | refine zcm ?_ | refine zcl ?_ | refine zcn ?_ | refine zco ?_ | refine zcs rfl ?_ | (refine zap rfl ?_; first | ((with_reducible refine zcu ?_); refine zan rfl ?_) | ((with_reducible refine zcv ?_); refine zan rfl ?_) | ((with_reducible refine zcw ?_); first | refine zaa 0 rfl rfl rfl ?_ | refine zaa 1 rfl rfl rfl ?_ | refine zaa 2 rfl rfl rfl ?_ | refine zaa 3 rfl rfl rfl ?_ | refine zaa 4 rfl rfl rfl ?_ | refine zaa 5 rfl rfl rfl ?_ | refine zab 0 rfl rfl rfl ?_ | refine zab 1 rfl rfl rfl ?_ | refine zab 2 rfl rfl rfl ?_ | refine zab 3 rfl rfl rfl ?_ | refine zab 4 rfl rfl rfl ?_ | refine zab 5 rfl rfl rfl ?_) | ((with_reducible refine zcx ?_); refine zce rfl ?_) | ((with_reducible refine zda ?_); first | refine zbg rfl rfl (by omega) ?_ | refine zbh rfl rfl (by omega) ?_ | refine zau rfl rfl (by omega) ?_ | refine zbq rfl rfl ?_) | ((with_reducible refine zdf ?_); first | refine zas rfl rfl (by omega) ?_ | refine zat rfl rfl (by omega) ?_)) | refine zch ?_ | refine zci rfl ?_ | refine zcj rfl ?_)
        exact cut_end ⟨rfl, j + 1, ⟨rfl, rfl, rfl, int_eq (by omega), trivial⟩, ⟨rfl, by omega, by rw [← g2]; rfl⟩, by omega⟩
    · repeat' (first | refine zck ?_ | refine zcp (by kernel_rfl) ?_ | refine zcq PP_mixed (by kernel_rfl) (by kernel_rfl) ?_ | refine zcm ?_ | refine zcl ?_ | refine zcn ?_ | refine zco ?_ | refine zcs rfl ?_ | (refine zap rfl ?_; first | ((with_reducible refine zcu ?_); refine zan rfl ?_) | ((with_reducible refine zcv ?_); refine zan rfl ?_) | ((with_reducible refine zcw ?_); first | refine zaa 0 rfl rfl rfl ?_ | refine zaa 1 rfl rfl rfl ?_ | refine zaa 2 rfl rfl rfl ?_ | refine zaa 3 rfl rfl rfl ?_ | refine zaa 4 rfl rfl rfl ?_ | refine zaa 5 rfl rfl rfl ?_ | refine zab 0 rfl rfl rfl ?_ | refine zab 1 rfl rfl rfl ?_ | refine zab 2 rfl rfl rfl ?_ | refine zab 3 rfl rfl rfl ?_ | refine zab 4 rfl rfl rfl ?_ | refine zab 5 rfl rfl rfl ?_) | ((with_reducible refine zcx ?_); refine zce rfl ?_) | ((with_reducible refine zda ?_); first | refine zbg rfl rfl (by omega) ?_ | refine zbh rfl rfl (by omega) ?_ | refine zau rfl rfl (by omega) ?_ | refine zbq rfl rfl ?_) | ((with_reducible refine zdf ?_); first | refine zas rfl rfl (by omega) ?_ | refine zat rfl rfl (by omega) ?_)) | refine zch ?_ | refine zci rfl ?_ | refine zcj rfl ?_)
      refine cut_exit rfl rfl ?_
      repeat' (first | refine zck ?_ | refine zcp (by kernel_rfl) ?_ | refine zcq PP_mixed (by kernel_rfl) (by kernel_rfl) ?_ | refine zcm ?_ | refine zcl ?_ | refine zcn ?_ | refine zco ?_ | refine zcs rfl ?_ | (refine zap rfl ?_; first | ((with_reducible refine zcu ?_); refine zan rfl ?_) | ((with_reducible refine zcv ?_); refine zan rfl ?_) | ((with_reducible refine zcw ?_); first | refine zaa 0 rfl rfl rfl ?_ | refine zaa 1 rfl rfl rfl ?_ | refine zaa 2 rfl rfl rfl ?_ | refine zaa 3 rfl rfl rfl ?_ | refine zaa 4 rfl rfl rfl ?_ | refine zaa 5 rfl rfl rfl ?_ | refine zab 0 rfl rfl rfl ?_ | refine zab 1 rfl rfl rfl ?_ | refine zab 2 rfl rfl rfl ?_ | refine zab 3 rfl rfl rfl ?_ | refine zab 4 rfl rfl rfl ?_ | refine zab 5 rfl rfl rfl ?_) | ((with_reducible refine zcx ?_); refine zce rfl ?_) | ((with_reducible refine zda ?_); first | refine zbg rfl rfl (by omega) ?_ | refine zbh rfl rfl (by omega) ?_ | refine zau rfl rfl (by omega) ?_ | refine zbq rfl rfl ?_) | ((with_reducible refine zdf ?_); first | refine zas rfl rfl (by omega) ?_ | refine zat rfl rfl (by omega) ?_)) | refine zch ?_ | refine zci rfl ?_ | refine zcj rfl ?_)
      rw [List.drop_of_length_le (by simp; omega)] at g2
      exact ret_tmp1 rfl ⟨by rw [← g2]; rfl, rfl⟩
theorem contains_spec (w0 : World) (a : Option Addr) (cap : Nat) (es : List En) (x : En) (xc i : Nat) (hi : i ≤ es.length) (hl : es.length ≤ 1099511627776) :
    FnE PP w0 [] 52 [.slice a i cap, ChkF xc] [EnA a cap es, EnC xc x] (.bool (decide (0 ≤ idxI x.loc (es.take i) 0))) [EnA a cap es, EnC xc x] := by
  refine fn_of_run en52 fn52 rfl rfl rfl ?_
  repeat' (first | refine zck ?_ | refine zcp (by kernel_rfl) ?_ | refine zcq PP_mixed (by kernel_rfl) (by kernel_rfl) ?_ | refine zcm ?_ | refine zcl ?_ | refine zcn ?_ | refine zco ?_ | refine zcs rfl ?_ | (refine zap rfl ?_; first | ((with_reducible refine zcu ?_); refine zan rfl ?_) | ((with_reducible refine zcv ?_); refine zan rfl ?_) | ((with_reducible refine zcx ?_); refine zah [0, 0] (idx_spec w0 a cap es x xc i hi hl) rfl rfl rfl sub_nil rfl ?_) | ((with_reducible refine zda ?_); refine zbt rfl rfl ?_)) | refine zch ?_ | refine zci rfl ?_ | refine zcj rfl ?_)
  exact ret_tmp1 rfl ⟨rfl, rfl⟩
end Go.Proofs.YtilnknokgflkjaaDoor

/- entry.Check. -/
namespace Go.Proofs.YtilnknokgflkjaaDoor
open Go.Vc Sim
def chkI (es : List En) : List En → Nat → Int
  | [], _ => 0
  | e :: l, i => if wrongI e ≠ 0 then wrongI e else if 0 ≤ idxI e.loc (es.take i) 0 then 11 else chkI es l (i + 1)
def checkI (es : List En) : Int := if es.length = 0 then 8 else if 32 < es.length then 15 else chkI es es 0
set_option maxHeartbeats 2000000
theorem echeck_spec (w0 : World) (a : Option Addr) (cap : Nat) (es : List En) (hr : ∀ e ∈ es, e.old.ref = 0) (hl : es.length ≤ 1099511627776) :
    FnE PP w0 [] 43 [.slice a es.length cap] [EnA a cap es] (.int .i64 (checkI es)) [EnA a cap es] := by
  refine fn_of_run en43 fn43 rfl rfl rfl ?_
  unfold checkI
  by_cases h0 : es.length = 0
  · rw [if_pos h0]
    repeat' (first | refine zck ?_ | refine zcp (by kernel_rfl) ?_ | refine zcl ?_ | (refine zap rfl ?_; first | ((with_reducible refine zcu ?_); refine zan rfl ?_) | ((with_reducible refine zcv ?_); refine zan rfl ?_) | ((with_reducible refine zcx ?_); refine zce rfl ?_) | ((with_reducible refine zda ?_); refine zbc rfl rfl (by omega) ?_)) | refine zch ?_ | refine zci rfl ?_)
    exact ret_tmp1 rfl ⟨rfl, rfl⟩
  · rw [if_neg h0]
    by_cases h1 : 32 < es.length
    · rw [if_pos h1]
      repeat' (first | refine zck ?_ | refine zcp (by kernel_rfl) ?_ | refine zcl ?_ | (refine zap rfl ?_; first | ((with_reducible refine zcu ?_); refine zan rfl ?_) | ((with_reducible refine zcv ?_); refine zan rfl ?_) | ((with_reducible refine zcx ?_); refine zce rfl ?_) | ((with_reducible refine zda ?_); first | refine zbd rfl rfl (by omega) ?_ | refine zbk rfl rfl (by omega) ?_)) | refine zch ?_ | refine zci rfl ?_ | refine zcj rfl ?_)
      exact ret_tmp1 rfl ⟨rfl, rfl⟩
    · rw [if_neg h1]
      refine run_sl_cases 0 rfl (fun _ h _ _ => absurd h h0) ?_
      intro bb h2 h3 h4
      subst h2
      repeat' (first | refine zck ?_ | refine zcp (by kernel_rfl) ?_ | refine zcm ?_ | refine zcl ?_ | refine zcn ?_ | (refine zap rfl ?_; first | ((with_reducible refine zcu ?_); refine zan rfl ?_) | ((with_reducible refine zcv ?_); refine zan rfl ?_) | ((with_reducible refine zcx ?_); refine zce rfl ?_) | ((with_reducible refine zda ?_); first | refine zbd rfl rfl (by omega) ?_ | refine zbl rfl rfl (by omega) ?_)) | refine zch ?_ | refine zcj rfl ?_)
      refine run_loop (S := Nat) (fun j => [(0, .slice (some ⟨bb, 0, none⟩) es.length cap), (14, .slice (some ⟨bb, 0, none⟩) es.length cap), (15, .int .i64 es.length), (16, .int .i64 j)])
        (fun j Γ => Γ = [EnA (some ⟨bb, 0, none⟩) cap es] ∧ j ≤ es.length ∧ chkI es (es.drop j) j = chkI es es 0)
        (fun j => es.length - j) 0 ⟨rfl, rfl, rfl, rfl, trivial⟩ ⟨rfl, by omega, rfl⟩ ?_
      rintro j Γ junk ⟨rfl, g1, g2⟩
      by_cases hj : j < es.length
      · obtain ⟨e, he⟩ : ∃ e, es[j]? = some e := ⟨_, List.getElem?_eq_getElem hj⟩
        have hd : es.drop j = e :: es.drop (j + 1) := by
          rw [List.drop_eq_getElem_cons hj]
          congr 1
          exact (List.getElem?_eq_some_iff.1 he).2
        have hrd := flatE_rd he
        have hW := wrong_spec w0 e (hr e (List.mem_of_getElem? he))
        rw [hd, chkI] at g2
        repeat' (first | refine zck ?_ | refine zcp (by kernel_rfl) ?_ | refine zcm ?_ | refine zcl ?_ | (refine zap rfl ?_; first | refine zag 0 rfl rfl (hrd _ (by omega)) (by intro _; omega) ?_ | ((with_reducible refine zcu ?_); refine zan rfl ?_) | ((with_reducible refine zcv ?_); refine zan rfl ?_) | ((with_reducible refine zcw ?_); refine zab 1 rfl rfl rfl ?_) | ((with_reducible refine zcx ?_); refine zah [] hW rfl rfl rfl sub_nil rfl ?_) | ((with_reducible refine zda ?_); first | refine zbg rfl rfl (by omega) ?_ | refine zbp rfl rfl ?_) | ((with_reducible refine zdd ?_); refine zae 1 rfl rfl rfl rfl rfl rfl rfl ?_) | ((with_reducible refine zdf ?_); refine zas rfl rfl (by omega) ?_) | ((with_reducible refine zdh ?_); refine zar (fun nb => ?_))) | refine zch ?_ | refine zci rfl ?_)
        refine run_cond rfl (fun hE => ?_) (fun hE => ?_)
        · rw [if_pos hE] at g2
          repeat' (first | refine zck ?_ | refine zcp (by kernel_rfl) ?_ | (refine zap rfl ?_; first | ((with_reducible refine zcu ?_); refine zan rfl ?_) | ((with_reducible refine zcv ?_); refine zan rfl ?_)) | refine zch ?_)
          refine run_take [0] rfl ?_
          exact qret1 (fun _ _ h => h) rfl ⟨by rw [← g2]; rfl, rfl⟩
        · rw [if_neg hE] at g2
          repeat' (first | refine zck ?_ | refine zcp (by kernel_rfl) ?_ | refine zcm ?_ | (refine zap rfl ?_; first | refine reg_slice2 rfl rfl (by omega) ?_ | refine zan rfl ?_ | ((with_reducible refine zcx ?_); refine zah [0, 0] (contains_spec w0 _ cap es e nb j (by omega) hl) rfl rfl rfl sub_nil rfl ?_)) | refine zch ?_)
          refine run_cond rfl (fun hE => ?_) (fun hE => ?_)
          · rw [if_pos hE] at g2
            repeat' (first | refine zck ?_ | refine zcp (by kernel_rfl) ?_ | (refine zap rfl ?_; first | ((with_reducible refine zcv ?_); refine zan rfl ?_)) | refine zch ?_)
            refine run_take [0] rfl ?_
            exact qret1 (fun _ _ h => h) rfl ⟨by rw [← g2]; rfl, rfl⟩
          · rw [if_neg hE] at g2
            repeat' (first | refine zcp (by kernel_rfl) ?_ | refine zcm ?_ | refine zcn ?_ | (refine zap rfl ?_; first | ((with_reducible refine zcu ?_); refine zan rfl ?_) | ((with_reducible refine zda ?_); refine zau rfl rfl (by omega) ?_)) | refine zch ?_)
            refine run_take [0] rfl ?_
            exact cut_end ⟨rfl, j + 1, ⟨rfl, rfl, rfl, int_eq (by omega), trivial⟩, ⟨rfl, by omega, by rw [← g2]⟩, by omega⟩
      · repeat' (first | refine zck ?_ | refine zcp (by kernel_rfl) ?_ | (refine zap rfl ?_; first | ((with_reducible refine zda ?_); refine zbh rfl rfl (by omega) ?_)) | refine zch ?_ | refine zcj rfl ?_)
        refine cut_exit rfl rfl ?_
        repeat' (first | refine zck ?_ | refine zcp (by kernel_rfl) ?_ | (refine zap rfl ?_; first | ((with_reducible refine zcv ?_); refine zan rfl ?_)) | refine zch ?_)
        rw [List.drop_of_length_le (by omega)] at g2
        exact ret_tmp1 rfl ⟨by rw [← g2]; rfl, rfl⟩
end Go.Proofs.YtilnknokgflkjaaDoor

namespace Go.Proofs.YtilnknokgflkjaaDoor
open Go.Vc

theorem isNaN_spec (w0 : World) (x : Int) : FnE PP w0 [] 75 [.int .i64 x] [] (.bool false) [] := by
  refine fn_of_run en75 fn75 rfl rfl rfl ?_
  repeat' (first | refine zck ?_ | refine zcp (by kernel_rfl) ?_ | refine zcq PP_mixed (by kernel_rfl) (by kernel_rfl) ?_ | refine zcm ?_ | refine zcl ?_ | refine zcn ?_ | refine zco ?_ | refine zcs rfl ?_ | (refine zap rfl ?_; first | ((with_reducible refine zcu ?_); refine zan rfl ?_) | ((with_reducible refine zcv ?_); refine zan rfl ?_) | ((with_reducible refine zda ?_); first | refine zbp rfl rfl ?_ | refine zba rfl rfl ?_)) | refine zch ?_ | refine zci rfl ?_ | refine zcj rfl ?_)
  refine ret_tmp1 rfl ⟨(show Value.bool (decide (x ≠ x)) = _ from ?_), rfl⟩
  simp
theorem less_spec (w0 : World) (x y : Int) : FnE PP w0 [] 64 [.int .i64 x, .int .i64 y] [] (.bool (Go.Sort.ltInt x y)) [] := by
  refine fn_of_run en64 fn64 rfl rfl rfl ?_
  repeat' (first | refine zck ?_ | refine zcp (by kernel_rfl) ?_ | refine zcq PP_mixed (by kernel_rfl) (by kernel_rfl) ?_ | refine zcm ?_ | refine zcl ?_ | refine zcn ?_ | refine zco ?_ | refine zcs rfl ?_ | (refine zap rfl ?_; first | ((with_reducible refine zct ?_); first | refine zaj rfl ?_ | refine zak rfl ?_ | refine zal rfl ?_ | refine zam rfl rfl (fun _ => ?_) (fun _ => ?_)) | ((with_reducible refine zcu ?_); refine zan rfl ?_) | ((with_reducible refine zcv ?_); refine zan rfl ?_) | ((with_reducible refine zcx ?_); refine zah [] (isNaN_spec w0 _) rfl rfl rfl sub_nil rfl ?_) | ((with_reducible refine zda ?_); refine zbq rfl rfl ?_) | ((with_reducible refine zdb ?_); first | refine zby rfl ?_ | refine zbx rfl ?_) | ((with_reducible refine zdc ?_); first | refine zbu rfl ?_ | refine zbv rfl ?_ | refine zbw rfl rfl rfl ?_)) | refine zch ?_ | refine zci rfl ?_ | refine zcj rfl ?_)
  refine ret_tmp1 rfl ⟨?_, rfl⟩
  rfl
end Go.Proofs.YtilnknokgflkjaaDoor

