import Derived.Test.YtgdhcgnmffgkiaaGreatDoorPart22
import Derived.Test.YtgdhcgnmffgkiaaGreatDoorPart13
import Derived.Test.YtgdhcgnmffgkiaaGreatDoorPart12
import Derived.Test.YtgdhcgnmffgkiaaGreatDoorPart15
import Derived.Test.YtgdhcgnmffgkiaaGreatDoorPart16
import Derived.Test.YtgdhcgnmffgkiaaGreatDoorPart17
import Derived.Test.YtgdhcgnmffgkiaaGreatDoorPart19
import Derived.Test.YtgdhcgnmffgkiaaGreatDoorPart20
/- Own work: lemmas of this claim. -/
namespace Go.Proofs.YtgdhcgnmffgkiaaGreatDoor
variable (w0 : World)
open Go.Vc Sim
set_option maxHeartbeats 4000000
theorem pop_spec (hw : PowOk w0) (p : Nat) (A : Ar) (hA : A.Ok) (s : Sp) (hsm : Sm s 24) :
   Vc.Fn PP w0 [] 80 [arrV A, spP p] [SpaceA p s] (pushRV p (A.pop s)) := by
 obtain ⟨_, h1, h2⟩ := id hA
 obtain ⟨T, fr, hw2⟩ := id hw
 generalize hm : A.many s = m
 have hsm2 : Sm m.2.2.2 24 := hm ▸ sm_many hsm
 have hM := many_spec w0 hw p A hA s (hsm.mono (by decide))
 rw [hm] at hM
 have hmo := many_ok (A := A) (s := s)
 rw [hm] at hmo
 refine zep en80 fn80 rfl rfl rfl ?_
 refine zyr ?_
 repeat' (refine zap rfl ?_;first|refine zdw rfl rfl (by omega) ?_|refine zau rfl rfl (by omega) ?_|refine zdu rfl rfl ?_|refine zaq (cs := [_]) rfl (fun nb => ?_)|refine zaq (cs := [_, _, _, _]) rfl (fun nb => ?_)|refine zar (fun nb => ?_))
 all_goals refine zyn ?_
 rename_i b2 b3 vb
 revert nb; intro eb
 refine zeb [1] rfl ?_
 refine run_share_keep [1] rfl ?_
 refine zyr ?_
 repeat' (refine zap rfl ?_;first|refine zdw rfl rfl (by omega) ?_|refine zau rfl rfl (by omega) ?_|refine zdu rfl rfl ?_|refine zan rfl ?_|refine zan rfl ?_|refine zaa 0 rfl rfl rfl ?_|refine zaa 1 rfl rfl rfl ?_|refine zah [0] hM rfl rfl rfl zdj rfl ?_|refine zan rfl ?_)
 all_goals refine zyn ?_
 refine zyr ?_
 repeat' (refine zap rfl ?_;first|refine zdw rfl rfl (by omega) ?_|refine zau rfl rfl (by omega) ?_|refine zdu rfl rfl ?_|refine zan rfl ?_|refine zan rfl ?_|refine zbo rfl rfl ?_)
 all_goals refine zyn ?_
 refine run_slots [(2, ptrA b2), (3, ptrA b3), (4, ptrA vb), (5, ptrA eb), (6, .int .i64 m.1), (7, .int .i64 m.2.1), (8, .bool m.2.2.1), (26, .bool (decide (m.1 = 0)))] ⟨rfl, rfl, rfl, rfl, rfl, rfl, rfl, rfl, trivial⟩ (fun junk => ?_)
 refine zed rfl (fun hZ => ?_) (fun hZ => ?_)
 · have e : A.pop s = (0, 8, m.2.2.2) := by simp only [Ar.pop, hm]; rw [if_pos hZ]
   repeat' (first|refine zck ?_|refine zcp (by kernel_rfl) ?_|(refine zap rfl ?_;first|refine zdw rfl rfl (by omega) ?_|refine zau rfl rfl (by omega) ?_|refine zdu rfl rfl ?_|refine zae 1 rfl rfl rfl rfl rfl rfl rfl ?_|refine zae 2 rfl rfl rfl rfl rfl rfl rfl ?_)|refine zch ?_)
   rw [e]
   exact zeg (zek (zel [0] rfl (zen rfl (zeo 1 rfl rfl rfl) (zeo 2 rfl rfl rfl) ⟨rfl, rfl, rfl⟩)))
 refine zyr ?_
 repeat' (refine zap rfl ?_;first|refine zdw rfl rfl (by omega) ?_|refine zau rfl rfl (by omega) ?_|refine zdu rfl rfl ?_|refine zan rfl ?_|refine zan rfl ?_|refine zbx rfl ?_)
 all_goals refine zyn ?_
 refine run_slots [(2, ptrA b2), (3, ptrA b3), (4, ptrA vb), (5, ptrA eb), (6, .int .i64 m.1), (7, .int .i64 m.2.1), (29, .bool (!m.2.2.1))] ⟨rfl, rfl, rfl, rfl, rfl, rfl, rfl, trivial⟩ (fun junk => ?_)
 refine zee rfl (fun hE => ?_) (fun hE => ?_)
 · have hE : m.2.2.1 = false := by simpa using hE
   have e : A.pop s = (0, 24, m.2.2.2) := by simp only [Ar.pop, hm]; rw [if_neg hZ, hE, if_neg (by decide)]
   repeat' (first|refine zck ?_|refine zcp (by kernel_rfl) ?_|(refine zap rfl ?_;first|refine zdw rfl rfl (by omega) ?_|refine zau rfl rfl (by omega) ?_|refine zdu rfl rfl ?_|refine zae 1 rfl rfl rfl rfl rfl rfl rfl ?_|refine zae 2 rfl rfl rfl rfl rfl rfl rfl ?_)|refine zch ?_)
   rw [e]
   exact zeg (zek (zel [0] rfl (zen rfl (zeo 1 rfl rfl rfl) (zeo 2 rfl rfl rfl) ⟨rfl, rfl, rfl⟩)))
 have hE : m.2.2.1 = true := by simpa using hE
 obtain ⟨_, hn0, hn1, hn2⟩ := hmo hE
 have e : A.pop s = Ar.undoPop m.2.2.2.puts.length (A.popIn m.1 m.2.1.toNat m.2.2.2) := by simp only [Ar.pop, hm]; rw [if_neg hZ, if_pos hE]
 rw [e]
 have hd4 := dep_le m.1
 have hd5 := dep_le (m.1 - 1)
 have hd6 : 0 < dep m.1 := by unfold dep; (repeat' split) <;> omega
 have hd7 : dep (m.1 - 1) ≤ dep m.1 := by unfold dep; (repeat' split) <;> omega
 have hdd : m.2.1.toNat = dep m.1 := by omega
 rw [hdd, hn2]
 generalize hmk : m.2.2.2.puts.length = mk
 generalize dep m.1 = d at *
 generalize hnn : m.1 = n at *
 generalize hss : m.2.2.2 = t at *
 have hMk := mark_spec w0 p t
 rw [hmk] at hMk
 refine zyr ?_
 repeat' (refine zap rfl ?_;first|refine zdw rfl rfl (by omega) ?_|refine zau rfl rfl (by omega) ?_|refine zdu rfl rfl ?_|refine zaa 0 rfl rfl rfl ?_|refine zah [0] hMk rfl rfl rfl zdj rfl ?_|refine zae 3 rfl rfl rfl rfl rfl rfl rfl ?_|refine zar (fun nb => ?_))
 all_goals refine zyn ?_
 have fin := pop_fin w0 p b3 nb eb vb mk (A.popIn n d t)
 refine zyr ?_
 repeat' (refine zap rfl ?_;first|refine zcd rfl rfl ?_|refine zan rfl ?_|refine zdw rfl rfl (by omega) ?_|refine zau rfl rfl (by omega) ?_|refine zdu rfl rfl ?_|refine zaj rfl ?_|refine zak rfl ?_|refine zal rfl ?_|refine zam rfl rfl (fun _ => ?_) (fun _ => ?_))
 all_goals refine zyn ?_
 refine run_slots [(2, ptrA b2), (3, ptrA b3), (4, ptrA vb), (5, ptrA eb), (6, .int .i64 n), (7, .int .i64 (d : Int))] ⟨rfl, rfl, rfl, rfl, rfl, rfl, trivial⟩ (fun junk => ?_)
 show Run PP w0 _ _ _ _ _ [popD b3 nb eb vb] [SpaceA p t, vV vb 0, eV eb 0, mVA nb mk]
 have hWs := way_spec w0 hw p A hA (n - 1) (by omega) d hd4 (d : Int) rfl t (hsm2.mono (by decide))
 have hWl := way_len A (n - 1) d A.root t []
 have hsm4 : Sm (A.way (n - 1) d A.root t []).2 24 := sm_way hsm2
 have hr : A.popIn n d t = A.popIn n d t := rfl
 conv at hr => rhs; unfold Ar.popIn
 generalize hW : A.way (n - 1) d A.root t [] = W at hr hWs hWl hsm4
 obtain ⟨o, t2⟩ := W
 cases o with
 | none =>
   have hWn : FnE PP w0 [] 167 [arrV A, spP p, .int .i64 (n - 1), .int .i64 d] [SpaceA p t] (.tuple #[.slice none 0 0, .bool false]) [SpaceA p t2] := hWs
   repeat' (first|refine zck ?_|refine zcp (by kernel_rfl) ?_|(refine zap rfl ?_;first|refine zdw rfl rfl (by omega) ?_|refine zau rfl rfl (by omega) ?_|refine zdu rfl rfl ?_|refine zan rfl ?_|refine zan rfl ?_|refine zaa 0 rfl rfl rfl ?_|refine zaa 1 rfl rfl rfl ?_|refine zah [0] hWn rfl rfl rfl zdj rfl ?_|refine zan rfl ?_|refine zav rfl rfl (by omega) ?_|refine zbx rfl ?_|refine zae 1 rfl rfl rfl rfl rfl rfl rfl ?_|refine zae 2 rfl rfl rfl rfl rfl rfl rfl ?_)|refine zch ?_|refine zci rfl ?_)
   exact zeg (fin _ _ _ _ rfl rfl hr)
 | some l =>
   have hl : l.length = d := by have := (hWl l rfl).1; simpa using this
   have hlb : ∀ x ∈ l, 0 ≤ x ∧ x ≤ 4096 := (hWl l rfl).2 (by simp)
   have hgD : ∀ k, k < d → l[k]? = some (l.getD k 0) ∧ 0 ≤ l.getD k 0 ∧ l.getD k 0 ≤ 4096 := fun k hk => by
     have h1 : l[k]? = some l[k] := List.getElem?_eq_getElem (by omega)
     have h2 : l.getD k 0 = l[k] := by simp [List.getD, h1]
     rw [h2]; exact ⟨h1, hlb _ (List.getElem_mem _)⟩
   dsimp only at hr hsm4
   refine zyr ?_
   repeat' (refine zap rfl ?_;first|(refine zai [0] hWs rfl rfl rfl zdj ?_; rintro v Γ' ⟨a, cap, rfl, rfl⟩)|refine zdw rfl rfl (by omega) ?_|refine zau rfl rfl (by omega) ?_|refine zdu rfl rfl ?_|refine zan rfl ?_|refine zan rfl ?_|refine zaa 0 rfl rfl rfl ?_|refine zaa 1 rfl rfl rfl ?_|refine zan rfl ?_|refine zav rfl rfl (by omega) ?_)
   all_goals refine zyn ?_
   refine zyr ?_
   repeat' (refine zap rfl ?_;first|refine zdw rfl rfl (by omega) ?_|refine zau rfl rfl (by omega) ?_|refine zdu rfl rfl ?_|refine zan rfl ?_|refine zbx rfl ?_)
   all_goals refine zyn ?_
   refine zcj rfl ?_
   refine run_sl_cases 1 rfl (fun _ hz _ _ => absurd hz (by omega)) ?_
   intro lb e1 e2 e3
   subst e1
   refine run_share_sl [1] rfl (fun spare => ?_)
   have hrd : ∀ k, k < d → ∀ o, o = k → rd false 1 (intL l ++ spare) o = some (.int .i64 (l.getD k 0)) := by
     intro k hk o ho; subst ho; exact rd_append (intL_get _ _ _ (hgD _ hk).1) (by intro h; cases h)
   refine run_slots [(2, ptrA b2), (3, ptrA b3), (4, ptrA vb), (5, ptrA eb), (6, .int .i64 n), (7, .int .i64 (d : Int)), (10, .slice (some ⟨lb, 0, none⟩) l.length cap)] ⟨rfl, rfl, rfl, rfl, rfl, rfl, rfl, trivial⟩ (fun junk => ?_)
   have hdg := dig_bd (n - 1) 1
   have hld := hgD (d - 1) (by omega)
   have hl0 := hgD 0 (by omega)
   have hG := getS w0 p t2 (l.getD (d - 1) 0 + digA (n - 1) 1) (hsm4.mono (by decide))
   have hsm5 : Sm (t2.get (l.getD (d - 1) 0 + digA (n - 1) 1)).2 24 := sm_get hsm4
   generalize t2.get (l.getD (d - 1) 0 + digA (n - 1) 1) = g at hr hG hsm5
   repeat (first|refine zck ?_|refine zcl ?_|refine zcm ?_|refine zcn ?_|refine zco ?_)
   refine zyr ?_
   repeat' (refine zap rfl ?_;first|refine zaa 0 rfl rfl (hrd (d - 1) (by omega) _ (by omega)) ?_|refine zdw rfl rfl (by omega) ?_|refine zau rfl rfl (by omega) ?_|refine zdu rfl rfl ?_|refine zan rfl ?_|refine zaa 1 rfl rfl rfl ?_|refine zah [] (digit_spec w0 hw (n - 1) 1 (by omega) (by omega) _ rfl) rfl rfl rfl zdj rfl ?_|refine zah [0] hG rfl rfl rfl zdj rfl ?_|refine zav rfl rfl (by omega) ?_|refine zae 1 rfl rfl rfl rfl rfl rfl rfl ?_|refine zas rfl rfl (by omega) ?_)
   all_goals refine zyn ?_
   refine zyr ?_
   repeat' (refine zap rfl ?_;first|refine zdw rfl rfl (by omega) ?_|refine zau rfl rfl (by omega) ?_|refine zdu rfl rfl ?_|refine zan rfl ?_|refine zan rfl ?_|refine zah [] (depth_spec w0 hw _) rfl rfl rfl zdj rfl ?_|refine zav rfl rfl (by omega) ?_)
   all_goals refine zyn ?_
   refine zyr ?_
   repeat' (refine zap rfl ?_;first|refine zdw rfl rfl (by omega) ?_|refine zau rfl rfl (by omega) ?_|refine zdu rfl rfl ?_|refine zan rfl ?_)
   all_goals refine zyn ?_
   refine zyr ?_
   repeat' (refine zap rfl ?_;first|refine zdw rfl rfl (by omega) ?_|refine zau rfl rfl (by omega) ?_|refine zdu rfl rfl ?_|refine zan rfl ?_|refine zbs rfl rfl ?_)
   all_goals refine zyn ?_
   generalize hnow : dep (n - 1) = now at *
   refine run_slots [(2, ptrA b2), (3, ptrA b3), (4, ptrA vb), (5, ptrA eb), (6, .int .i64 n), (7, .int .i64 (d : Int)), (10, .slice (some ⟨lb, 0, none⟩) l.length cap), (11, .int .i64 now), (12, .int .i64 0), (61, .bool (decide (0 < now)))] ⟨rfl, rfl, rfl, rfl, rfl, rfl, rfl, rfl, rfl, bool_eq (dec_eq (by omega)), trivial⟩ (fun junk => ?_)
   refine run_join (S := Int) (fun top => [(2, ptrA b2), (3, ptrA b3), (4, ptrA vb), (5, ptrA eb), (6, .int .i64 n), (7, .int .i64 (d : Int)), (10, .slice (some ⟨lb, 0, none⟩) l.length cap), (11, .int .i64 now), (12, .int .i64 top)])
     (fun top Γ => Γ = [SpaceA p g.2, vV vb g.1, eV eb 0, mVA nb mk] ∧ top = if 0 < now then l.getD 0 0 else 0) ?_ ?_
   · by_cases h0 : 0 < now
     · refine zci (bool_eq (decide_eq_true h0)) ?_
       repeat' (first|refine zcp (by kernel_rfl) ?_|(refine zap rfl ?_;first|refine zaa 0 rfl rfl (hrd 0 (by omega) _ (by omega)) ?_|refine zdw rfl rfl (by omega) ?_|refine zau rfl rfl (by omega) ?_|refine zdu rfl rfl ?_|refine zan rfl ?_|refine zan rfl ?_|refine zas rfl rfl (by omega) ?_)|refine zch ?_)
       exact zeq ⟨rfl, _, ⟨rfl, rfl, rfl, rfl, rfl, rfl, rfl, rfl, rfl, trivial⟩, ⟨rfl, by rw [if_pos h0]⟩⟩
     · refine zcj (bool_eq (decide_eq_false h0)) ?_
       repeat (first|refine zck ?_|refine zcl ?_|refine zcm ?_|refine zcn ?_|refine zco ?_)
       exact zeq ⟨rfl, _, ⟨rfl, rfl, rfl, rfl, rfl, rfl, rfl, rfl, rfl, trivial⟩, ⟨rfl, by rw [if_neg h0]⟩⟩
   rintro top Γ' junk ⟨rfl, htop⟩
   repeat (first|refine zck ?_|refine zcl ?_|refine zcm ?_|refine zcn ?_|refine zco ?_)
   refine run_join (S := Unit) (fun _ => [(2, ptrA b2), (3, ptrA b3), (4, ptrA vb), (5, ptrA eb), (6, .int .i64 n), (7, .int .i64 (d : Int)), (10, .slice (some ⟨lb, 0, none⟩) l.length cap), (11, .int .i64 now), (12, .int .i64 top), (71, .bool (decide (0 < now ∧ now < d)))])
     (fun _ Γ => Γ = [SpaceA p g.2, vV vb g.1, eV eb 0, mVA nb mk]) ?_ ?_
   · by_cases h0 : 0 < now
     · by_cases h1 : now < d
       · have d0 : decide ((0 : Int) < (now : Int)) = true := decide_eq_true (by omega)
         have d1 : decide ((now : Int) < (d : Int)) = true := decide_eq_true (by omega)
         repeat' (first|refine zcp (by kernel_rfl) ?_|(refine zap rfl ?_;first|(refine zbs rfl rfl ?_; rw [d0])|(refine zbq rfl rfl ?_; rw [d1])|refine zdw rfl rfl (by omega) ?_|refine zau rfl rfl (by omega) ?_|refine zdu rfl rfl ?_|refine zaj rfl ?_|refine zan rfl ?_|refine zbu rfl ?_)|refine zch ?_)
         exact zeq ⟨rfl, (), ⟨rfl, rfl, rfl, rfl, rfl, rfl, rfl, rfl, rfl, bool_eq (by simp [h0, h1]), trivial⟩, rfl⟩
       · have d0 : decide ((0 : Int) < (now : Int)) = true := decide_eq_true (by omega)
         have d1 : decide ((now : Int) < (d : Int)) = false := decide_eq_false (by omega)
         repeat' (first|refine zcp (by kernel_rfl) ?_|(refine zap rfl ?_;first|(refine zbs rfl rfl ?_; rw [d0])|(refine zbq rfl rfl ?_; rw [d1])|refine zdw rfl rfl (by omega) ?_|refine zau rfl rfl (by omega) ?_|refine zdu rfl rfl ?_|refine zaj rfl ?_|refine zan rfl ?_|refine zbu rfl ?_)|refine zch ?_)
         exact zeq ⟨rfl, (), ⟨rfl, rfl, rfl, rfl, rfl, rfl, rfl, rfl, rfl, bool_eq (by simp [h1]), trivial⟩, rfl⟩
     · have d0 : decide ((0 : Int) < (now : Int)) = false := decide_eq_false (by omega)
       repeat' (first|refine zcp (by kernel_rfl) ?_|(refine zap rfl ?_;first|(refine zbs rfl rfl ?_; rw [d0])|refine zdw rfl rfl (by omega) ?_|refine zau rfl rfl (by omega) ?_|refine zdu rfl rfl ?_|refine zak rfl ?_|refine zan rfl ?_|refine zbv rfl ?_)|refine zch ?_)
       exact zeq ⟨rfl, (), ⟨rfl, rfl, rfl, rfl, rfl, rfl, rfl, rfl, rfl, bool_eq (by simp [h0]), trivial⟩, rfl⟩
   rintro _ Γ' junk rfl
   repeat (first|refine zck ?_|refine zcl ?_|refine zcm ?_|refine zcn ?_|refine zco ?_)
   refine run_join (S := Int × Sp) (fun st => [(2, ptrA b2), (3, ptrA b3), (4, ptrA vb), (5, ptrA eb), (6, .int .i64 n), (7, .int .i64 (d : Int)), (10, .slice (some ⟨lb, 0, none⟩) l.length cap), (11, .int .i64 now), (12, .int .i64 st.1)])
     (fun st Γ => Γ = [SpaceA p st.2, vV vb g.1, eV eb 0, mVA nb mk] ∧ Sm st.2 24 ∧ A.popIn n d t = A.popOn n d now l g.1 st.1 st.2) ?_ ?_
   · by_cases hc : 0 < now ∧ now < d
     · refine zci (bool_eq (decide_eq_true hc)) ?_
       rw [if_pos hc] at hr
       have hN := anode_spec w0 p A hA g.2 (l.getD 0 0) (hsm5.mono (by decide))
       have hsm6 : Sm (A.node g.2 (l.getD 0 0)).2.2 24 := sm_node hsm5
       generalize A.node g.2 (l.getD 0 0) = x at hr hN hsm6
       refine zyr ?_
       repeat' (refine zap rfl ?_;first|refine zaa 0 rfl rfl (hrd 0 (by omega) _ (by omega)) ?_|refine zdw rfl rfl (by omega) ?_|refine zau rfl rfl (by omega) ?_|refine zdu rfl rfl ?_|refine zan rfl ?_|refine zan rfl ?_|refine zaa 1 rfl rfl rfl ?_|refine zaa 2 rfl rfl rfl ?_|refine zah [0] hN rfl rfl rfl zdj rfl ?_|refine zan rfl ?_|refine zas rfl rfl (by omega) ?_)
       all_goals refine zyn ?_
       refine zyr ?_
       repeat' (refine zap rfl ?_;first|refine zdw rfl rfl (by omega) ?_|refine zau rfl rfl (by omega) ?_|refine zdu rfl rfl ?_|refine zan rfl ?_|refine zbx rfl ?_)
       all_goals refine zyn ?_
       refine zee rfl (fun hE => ?_) (fun hE => ?_)
       · have hE : x.2.1 = false := by simpa using hE
         rw [hE, if_neg (by decide)] at hr
         repeat' (first|refine zck ?_|refine zcp (by kernel_rfl) ?_|(refine zap rfl ?_;first|refine zdw rfl rfl (by omega) ?_|refine zau rfl rfl (by omega) ?_|refine zdu rfl rfl ?_|refine zae 1 rfl rfl rfl rfl rfl rfl rfl ?_|refine zae 2 rfl rfl rfl rfl rfl rfl rfl ?_)|refine zch ?_)
         exact zeg (fin _ _ _ _ rfl rfl hr)
       · have hE : x.2.1 = true := by simpa using hE
         rw [if_pos hE] at hr
         repeat' (first|refine zcp (by kernel_rfl) ?_|refine zcm ?_|(refine zap rfl ?_;first|refine zdw rfl rfl (by omega) ?_|refine zau rfl rfl (by omega) ?_|refine zdu rfl rfl ?_|refine zan rfl ?_|refine zan rfl ?_)|refine zch ?_)
         exact zeq ⟨rfl, (x.1, x.2.2), ⟨rfl, rfl, rfl, rfl, rfl, rfl, rfl, rfl, rfl, trivial⟩, ⟨rfl, hsm6, hr⟩⟩
     · refine zcj (bool_eq (decide_eq_false hc)) ?_
       rw [if_neg hc, ← htop] at hr
       repeat (first|refine zck ?_|refine zcl ?_|refine zcm ?_|refine zcn ?_|refine zco ?_)
       exact zeq ⟨rfl, (top, g.2), ⟨rfl, rfl, rfl, rfl, rfl, rfl, rfl, rfl, rfl, trivial⟩, ⟨rfl, hsm5, hr⟩⟩
   rintro ⟨top, s3⟩ Γ' junk ⟨rfl, hsm6, hr2⟩
   dsimp only at hsm6 hr2 ⊢
   have hr3 : A.popIn n d t = (if (A.gives n d now l 0 0 s3).1 = 0 then (g.1, 0, A.fell n d now top (A.gives n d now l 0 0 s3).2.1 (A.gives n d now l 0 0 s3).2.2) else (0, (A.gives n d now l 0 0 s3).1, (A.gives n d now l 0 0 s3).2.2)) := hr2
   repeat (first|refine zck ?_|refine zcl ?_|refine zcm ?_|refine zcn ?_|refine zco ?_)
   refine zyr ?_
   repeat' (refine zap rfl ?_;first|refine zdw rfl rfl (by omega) ?_|refine zau rfl rfl (by omega) ?_|refine zdu rfl rfl ?_|refine zan rfl ?_)
   all_goals refine zyn ?_
   refine zyr ?_
   repeat' (refine zap rfl ?_;first|refine zdw rfl rfl (by omega) ?_|refine zau rfl rfl (by omega) ?_|refine zdu rfl rfl ?_|refine zan rfl ?_|refine zce rfl ?_)
   all_goals refine zyn ?_
   refine run_loop (S := Nat × Int × Sp) (fun st => [(2, ptrA b2), (3, ptrA b3), (4, ptrA vb), (5, ptrA eb), (6, .int .i64 n), (7, .int .i64 (d : Int)), (11, .int .i64 now), (12, .int .i64 top), (15, .int .i64 st.2.1), (84, .slice (some ⟨lb, 0, none⟩) l.length cap), (85, .int .i64 l.length), (86, .int .i64 (st.1 : Int))])
     (fun st Γ => Γ = [SpaceA p st.2.2, vV vb g.1, eV eb 0, mVA nb mk] ∧ st.1 ≤ d ∧ Sm st.2.2 (4 + 3 * (d - st.1)) ∧ (0 ≤ st.2.1 ∧ st.2.1 ≤ st.1) ∧ A.gives n d now l 0 0 s3 = A.gives n d now (l.drop st.1) st.1 st.2.1 st.2.2)
     (fun st => d - st.1) (0, 0, s3) ⟨rfl, rfl, rfl, rfl, rfl, rfl, rfl, rfl, rfl, rfl, rfl, rfl, trivial⟩ ⟨rfl, Nat.zero_le _, hsm6.mono (by dsimp only; omega), ⟨Int.le_refl _, Int.le_refl _⟩, rfl⟩ ?_
   rintro ⟨i, gone, s4⟩ Γ' junk ⟨rfl, hid, hsm7, hgb, hgv⟩
   dsimp only at hid hsm7 hgb hgv ⊢
   rw [hgv] at hr3
   by_cases hi : i < d
   rotate_left
   · have hid2 : i = d := by omega
     subst hid2
     rw [show l.drop i = [] from by rw [List.drop_eq_nil_iff]; omega] at hr3
     have hg0 : A.gives n i now [] i gone s4 = (0, gone, s4) := rfl
     rw [hg0] at hr3
     dsimp only at hr3
     rw [if_pos rfl] at hr3
     refine zyr ?_
     repeat' (refine zap rfl ?_;first|refine zdw rfl rfl (by omega) ?_|refine zau rfl rfl (by omega) ?_|refine zdu rfl rfl ?_|refine zbq rfl rfl ?_)
     all_goals refine zyn ?_
     refine zcj (bool_eq (decide_eq_false (by omega))) ?_
     repeat (first|refine zck ?_|refine zcl ?_|refine zcm ?_|refine zcn ?_|refine zco ?_)
     refine zer rfl rfl ?_
     have hsm8 : Sm s4 4 := hsm7.mono (by omega)
     unfold Ar.fell at hr3
     dsimp only at hr3
     repeat (first|refine zck ?_|refine zcl ?_|refine zcm ?_|refine zcn ?_|refine zco ?_)
     refine zyr ?_
     repeat' (refine zap rfl ?_;first|refine zdw rfl rfl (by omega) ?_|refine zau rfl rfl (by omega) ?_|refine zdu rfl rfl ?_|refine zan rfl ?_|refine zbs rfl rfl ?_)
     all_goals refine zyn ?_
     refine run_join (S := Sp) (fun _ => [(2, ptrA b2), (3, ptrA b3), (4, ptrA vb), (5, ptrA eb), (6, .int .i64 n), (7, .int .i64 (i : Int)), (11, .int .i64 now), (12, .int .i64 top)])
       (fun st Γ => Γ = [SpaceA p st, vV vb g.1, eV eb 0, mVA nb mk] ∧ Sm st 3 ∧ (if 0 < gone then (s4.get (w64 (A.root + 7))).2.put (w64 (A.root + 7)) (w64 ((s4.get (w64 (A.root + 7))).1 - gone)) else s4) = st) ?_ ?_
     · by_cases hz : 0 < gone
       · refine zci (bool_eq (decide_eq_true hz)) ?_
         have hsm := hsm8
         repeat' (first|refine zcq PP_mixed (by kernel_rfl) (by kernel_rfl) ?_|(refine zap rfl ?_;first|refine zev (t := 2) rfl rfl ?_|refine zdw rfl rfl (by omega) ?_|refine zau rfl rfl (by omega) ?_|refine zdu rfl rfl ?_|refine zan rfl ?_|refine zaa 1 rfl rfl rfl ?_|refine zaa 2 rfl rfl rfl ?_|refine zah [0] (getS w0 p _ _ (by first|exact hsm.mono (by decide) | (repeat (first|refine sm_get ?_|refine sm_put ?_|refine sm_node ?_|refine sm_take ?_|refine sm_many ?_|refine sm_way ?_|refine sm_poolTake ?_|refine sm_give ?_|refine sm_place ?_)); exact hsm.mono (by decide))) rfl rfl rfl zdj rfl ?_|refine zah [0] (putS w0 p _ _ _ (by first|exact hsm.mono (by decide) | (repeat (first|refine sm_get ?_|refine sm_put ?_|refine sm_node ?_|refine sm_take ?_|refine sm_many ?_|refine sm_way ?_|refine sm_poolTake ?_|refine sm_give ?_|refine sm_place ?_)); exact hsm.mono (by decide))) rfl rfl rfl zdj rfl ?_|refine zao rfl ?_)|refine zch ?_)
         exact zeq ⟨rfl, _, ⟨rfl, rfl, rfl, rfl, rfl, rfl, rfl, rfl, trivial⟩, ⟨rfl, sm_put (sm_get hsm8), by rw [if_pos hz]; rfl⟩⟩
       · refine zcj (bool_eq (decide_eq_false hz)) ?_
         repeat (first|refine zck ?_|refine zcl ?_|refine zcm ?_|refine zcn ?_|refine zco ?_)
         exact zeq ⟨rfl, _, ⟨rfl, rfl, rfl, rfl, rfl, rfl, rfl, rfl, trivial⟩, ⟨rfl, hsm8.mono (by decide), by rw [if_neg hz]⟩⟩
     rintro s5 Γ' junk ⟨rfl, hsm9, he5⟩
     rw [he5] at hr3
     repeat (first|refine zck ?_|refine zcl ?_|refine zcm ?_|refine zcn ?_|refine zco ?_)
     refine zyr ?_
     repeat' (refine zap rfl ?_;first|refine zdw rfl rfl (by omega) ?_|refine zau rfl rfl (by omega) ?_|refine zdu rfl rfl ?_|refine zan rfl ?_|refine zbq rfl rfl ?_)
     all_goals refine zyn ?_
     refine run_join (S := Sp) (fun _ => [(2, ptrA b2), (3, ptrA b3), (4, ptrA vb), (5, ptrA eb), (6, .int .i64 n)])
       (fun st Γ => Γ = [SpaceA p st, vV vb g.1, eV eb 0, mVA nb mk] ∧ Sm st 1 ∧ (if now < i then (s5.put A.root top).put (w64 (A.root + 2)) now else s5) = st) ?_ ?_
     · by_cases hz : now < i
       · refine zci (bool_eq (decide_eq_true (by omega))) ?_
         have hsm := hsm9
         repeat' (first|refine zck ?_|refine zcp (by kernel_rfl) ?_|(refine zap rfl ?_;first|(refine zau rfl rfl (by omega) ?_; rw [Int.add_zero])|refine zdw rfl rfl (by omega) ?_|refine zau rfl rfl (by omega) ?_|refine zdu rfl rfl ?_|refine zan rfl ?_|refine zaa 1 rfl rfl rfl ?_|refine zaa 2 rfl rfl rfl ?_|refine zah [0] (putS w0 p _ _ _ (by first|exact hsm.mono (by decide) | (repeat (first|refine sm_get ?_|refine sm_put ?_|refine sm_node ?_|refine sm_take ?_|refine sm_many ?_|refine sm_way ?_|refine sm_poolTake ?_|refine sm_give ?_|refine sm_place ?_)); exact hsm.mono (by decide))) rfl rfl rfl zdj rfl ?_|refine zao rfl ?_)|refine zch ?_)
         exact zeq ⟨rfl, _, ⟨rfl, rfl, rfl, rfl, rfl, trivial⟩, ⟨rfl, sm_put (sm_put hsm9), by rw [if_pos hz]; rfl⟩⟩
       · refine zcj (bool_eq (decide_eq_false (by omega))) ?_
         repeat (first|refine zck ?_|refine zcl ?_|refine zcm ?_|refine zcn ?_|refine zco ?_)
         exact zeq ⟨rfl, _, ⟨rfl, rfl, rfl, rfl, rfl, trivial⟩, ⟨rfl, hsm9.mono (by decide), by rw [if_neg hz]⟩⟩
     rintro s6 Γ' junk ⟨rfl, hsm10, he6⟩
     rw [he6] at hr3
     have hsm := hsm10
     repeat' (first|refine zck ?_|refine zcp (by kernel_rfl) ?_|(refine zap rfl ?_;first|refine zdw rfl rfl (by omega) ?_|refine zau rfl rfl (by omega) ?_|refine zdu rfl rfl ?_|refine zan rfl ?_|refine zaa 1 rfl rfl rfl ?_|refine zaa 2 rfl rfl rfl ?_|refine zab 1 rfl rfl rfl ?_|refine zah [0] (putS w0 p _ _ _ (by first|exact hsm.mono (by decide) | (repeat (first|refine sm_get ?_|refine sm_put ?_|refine sm_node ?_|refine sm_take ?_|refine sm_many ?_|refine sm_way ?_|refine sm_poolTake ?_|refine sm_give ?_|refine sm_place ?_)); exact hsm.mono (by decide))) rfl rfl rfl zdj rfl ?_|refine zao rfl ?_|refine zav rfl rfl (by omega) ?_|refine zae 1 rfl rfl rfl rfl rfl rfl rfl ?_|refine zae 2 rfl rfl rfl rfl rfl rfl rfl ?_)|refine zch ?_)
     exact zeg (fin _ _ _ _ rfl rfl hr3)
   · obtain ⟨hli, hlb1, hlb2⟩ := hgD i hi
     have hdrop : l.drop i = l.getD i 0 :: l.drop (i + 1) := by
       rw [List.drop_eq_getElem_cons (by omega)]
       congr 1
       have := hli; rw [List.getElem?_eq_getElem (by omega)] at this; exact Option.some.inj this
     rw [hdrop] at hr3 hgv
     have hgu : A.gives n d now (l.getD i 0 :: l.drop (i + 1)) i gone s4 = A.gives n d now (l.getD i 0 :: l.drop (i + 1)) i gone s4 := rfl
     conv at hgu => rhs; unfold Ar.gives
     rw [hgu] at hr3 hgv
     have hsm8 : Sm s4 (4 + 3 * (d - (i + 1)) + 3) := hsm7.mono (by omega)
     have hp := pw_pos (d - i)
     refine zyr ?_
     repeat' (refine zap rfl ?_;first|refine zdw rfl rfl (by omega) ?_|refine zau rfl rfl (by omega) ?_|refine zdu rfl rfl ?_|refine zbq rfl rfl ?_)
     all_goals refine zyn ?_
     refine zci (bool_eq (decide_eq_true (by omega))) ?_
     repeat (first|refine zck ?_|refine zcl ?_|refine zcm ?_|refine zcn ?_|refine zco ?_)
     refine zyr ?_
     repeat' (refine zap rfl ?_;first|refine zaa 0 rfl rfl (hrd i hi _ (by omega)) ?_|refine zdw rfl rfl (by omega) ?_|refine zau rfl rfl (by omega) ?_|refine zdu rfl rfl ?_|refine zan rfl ?_|refine zan rfl ?_|refine zas rfl rfl (by omega) ?_)
     all_goals refine zyn ?_
     refine run_join (S := Unit) (fun _ => [(2, ptrA b2), (3, ptrA b3), (4, ptrA vb), (5, ptrA eb), (6, .int .i64 n), (7, .int .i64 (d : Int)), (11, .int .i64 now), (12, .int .i64 top), (15, .int .i64 gone), (84, .slice (some ⟨lb, 0, none⟩) l.length cap), (85, .int .i64 l.length), (86, .int .i64 (i : Int)), (17, .int .i64 (l.getD i 0)), (108, .bool (decide ((n - 1) % pw (d - i) ≠ 0 ∧ (0 < i ∨ now = d))))])
       (fun _ Γ => Γ = [SpaceA p s4, vV vb g.1, eV eb 0, mVA nb mk]) ?_ ?_
     · by_cases hc1 : (n - 1) % pw (d - i) ≠ 0
       · have d1 : decide ((n - 1) % pw (d - i) ≠ 0) = true := decide_eq_true hc1
         by_cases hc2 : 0 < i
         · have d2 : decide ((0 : Int) < (i : Int)) = true := decide_eq_true (by omega)
           repeat' (first|refine zcp (by kernel_rfl) ?_|(refine zap rfl ?_;first|refine zac rfl hw2 (powL_rd (d - i) (by omega) _ (by omega)) ?_|(refine zbp rfl rfl ?_; rw [d1])|(refine zbs rfl rfl ?_; rw [d2])|refine zdw rfl rfl (by omega) ?_|refine zau rfl rfl (by omega) ?_|refine zdu rfl rfl ?_|refine zaj rfl ?_|refine zak rfl ?_|refine zan rfl ?_|refine zav rfl rfl (by omega) ?_|refine zay rfl rfl (by omega) ?_|refine zbu rfl ?_|refine zat rfl rfl (by omega) ?_)|refine zch ?_)
           exact zeq ⟨rfl, (), ⟨rfl, rfl, rfl, rfl, rfl, rfl, rfl, rfl, rfl, rfl, rfl, rfl, rfl, bool_eq (by simp [hc1, hc2]), trivial⟩, rfl⟩
         · have d2 : decide ((0 : Int) < (i : Int)) = false := decide_eq_false (by omega)
           by_cases hc3 : now = d
           · have d3 : decide ((now : Int) = (d : Int)) = true := decide_eq_true (by omega)
             repeat' (first|refine zcp (by kernel_rfl) ?_|(refine zap rfl ?_;first|refine zac rfl hw2 (powL_rd (d - i) (by omega) _ (by omega)) ?_|(refine zbp rfl rfl ?_; rw [d1])|(refine zbs rfl rfl ?_; rw [d2])|(refine zbo rfl rfl ?_; rw [d3])|refine zdw rfl rfl (by omega) ?_|refine zau rfl rfl (by omega) ?_|refine zdu rfl rfl ?_|refine zaj rfl ?_|refine zan rfl ?_|refine zav rfl rfl (by omega) ?_|refine zay rfl rfl (by omega) ?_|refine zbu rfl ?_|refine zbv rfl ?_|refine zat rfl rfl (by omega) ?_)|refine zch ?_)
             exact zeq ⟨rfl, (), ⟨rfl, rfl, rfl, rfl, rfl, rfl, rfl, rfl, rfl, rfl, rfl, rfl, rfl, bool_eq (by simp [hc1, hc3]), trivial⟩, rfl⟩
           · have d3 : decide ((now : Int) = (d : Int)) = false := decide_eq_false (by omega)
             repeat' (first|refine zcp (by kernel_rfl) ?_|(refine zap rfl ?_;first|refine zac rfl hw2 (powL_rd (d - i) (by omega) _ (by omega)) ?_|(refine zbp rfl rfl ?_; rw [d1])|(refine zbs rfl rfl ?_; rw [d2])|(refine zbo rfl rfl ?_; rw [d3])|refine zdw rfl rfl (by omega) ?_|refine zau rfl rfl (by omega) ?_|refine zdu rfl rfl ?_|refine zaj rfl ?_|refine zan rfl ?_|refine zav rfl rfl (by omega) ?_|refine zay rfl rfl (by omega) ?_|refine zbu rfl ?_|refine zbv rfl ?_|refine zat rfl rfl (by omega) ?_)|refine zch ?_)
             exact zeq ⟨rfl, (), ⟨rfl, rfl, rfl, rfl, rfl, rfl, rfl, rfl, rfl, rfl, rfl, rfl, rfl, bool_eq (by simp [hc2, hc3]), trivial⟩, rfl⟩
       · have d1 : decide ((n - 1) % pw (d - i) ≠ 0) = false := decide_eq_false hc1
         repeat' (first|refine zcp (by kernel_rfl) ?_|(refine zap rfl ?_;first|refine zac rfl hw2 (powL_rd (d - i) (by omega) _ (by omega)) ?_|(refine zbp rfl rfl ?_; rw [d1])|refine zdw rfl rfl (by omega) ?_|refine zau rfl rfl (by omega) ?_|refine zdu rfl rfl ?_|refine zak rfl ?_|refine zal rfl ?_|refine zan rfl ?_|refine zav rfl rfl (by omega) ?_|refine zay rfl rfl (by omega) ?_|refine zbv rfl ?_|refine zat rfl rfl (by omega) ?_)|refine zch ?_)
         exact zeq ⟨rfl, (), ⟨rfl, rfl, rfl, rfl, rfl, rfl, rfl, rfl, rfl, rfl, rfl, rfl, rfl, bool_eq (by simp [hc1]), trivial⟩, rfl⟩
     rintro _ Γ' junk rfl
     repeat (first|refine zck ?_|refine zcl ?_|refine zcm ?_|refine zcn ?_|refine zco ?_)
     by_cases hc : (n - 1) % pw (d - i) ≠ 0 ∧ (0 < i ∨ now = d)
     · refine zci (bool_eq (decide_eq_true hc)) ?_
       rw [if_pos hc] at hgv
       repeat' (first|refine zcp (by kernel_rfl) ?_|refine zcs rfl ?_|(refine zap rfl ?_;first|refine zdw rfl rfl (by omega) ?_|refine zau rfl rfl (by omega) ?_|refine zdu rfl rfl ?_|refine zan rfl ?_)|refine zch ?_)
       exact zeq ⟨rfl, (i + 1, gone, s4), ⟨rfl, rfl, rfl, rfl, rfl, rfl, rfl, rfl, rfl, rfl, rfl, zes (by dsimp only; omega), trivial⟩, ⟨rfl, hi, hsm8.mono (by dsimp only; omega), ⟨hgb.1, by dsimp only; omega⟩, hgv⟩, by dsimp only; omega⟩
     · refine zcj (bool_eq (decide_eq_false hc)) ?_
       rw [if_neg hc] at hgv hr3
       have hGv := give_spec w0 p A.pool hA.1 s4 (l.getD i 0) (hsm8.mono (by omega))
       have hsm9 : Sm (A.pool.give s4 (l.getD i 0)).2 (4 + 3 * (d - (i + 1))) := sm_give hsm8
       generalize A.pool.give s4 (l.getD i 0) = y at hgv hr3 hGv hsm9
       repeat (first|refine zck ?_|refine zcl ?_|refine zcm ?_|refine zcn ?_|refine zco ?_)
       refine zyr ?_
       repeat' (refine zap rfl ?_;first|refine zdw rfl rfl (by omega) ?_|refine zau rfl rfl (by omega) ?_|refine zdu rfl rfl ?_|refine zan rfl ?_|refine zan rfl ?_|refine zaa 1 rfl rfl rfl ?_|refine zaa 2 rfl rfl rfl ?_|refine zah [0] hGv rfl rfl rfl zdj rfl ?_|refine zao rfl ?_)
       all_goals refine zyn ?_
       refine zyr ?_
       repeat' (refine zap rfl ?_;first|refine zdw rfl rfl (by omega) ?_|refine zau rfl rfl (by omega) ?_|refine zdu rfl rfl ?_|refine zan rfl ?_|refine zbp rfl rfl ?_)
       all_goals refine zyn ?_
       refine zed rfl (fun hE => ?_) (fun hE => ?_)
       · rw [if_neg hE] at hr3
         dsimp only at hr3
         rw [if_neg hE] at hr3
         repeat' (first|refine zck ?_|refine zcp (by kernel_rfl) ?_|(refine zap rfl ?_;first|refine zdw rfl rfl (by omega) ?_|refine zau rfl rfl (by omega) ?_|refine zdu rfl rfl ?_|refine zan rfl ?_|refine zae 1 rfl rfl rfl rfl rfl rfl rfl ?_|refine zae 2 rfl rfl rfl rfl rfl rfl rfl ?_)|refine zch ?_)
         exact zeg (fin _ _ _ _ rfl rfl hr3)
       · have hE : y.1 = 0 := Decidable.of_not_not hE
         rw [if_pos hE] at hgv
         repeat' (first|refine zcp (by kernel_rfl) ?_|refine zcm ?_|refine zcn ?_|(refine zap rfl ?_;first|refine zdw rfl rfl (by omega) ?_|refine zau rfl rfl (by omega) ?_|refine zdu rfl rfl ?_|refine zan rfl ?_|refine zan rfl ?_)|refine zch ?_)
         exact zeq ⟨rfl, (i + 1, gone + 1, y.2), ⟨rfl, rfl, rfl, rfl, rfl, rfl, rfl, rfl, rfl, rfl, rfl, zes (by dsimp only; omega), trivial⟩, ⟨rfl, hi, hsm9, ⟨by dsimp only; omega, by dsimp only; omega⟩, hgv⟩, by dsimp only; omega⟩
end Go.Proofs.YtgdhcgnmffgkiaaGreatDoor
namespace Sim
open Go Go.Vc
def Few (s : Sp) : Prop := s.puts.length ≤ 100000000
theorem Few.fits {α : Type} {g : Pg α} {n : Nat} {s : Sp} (h : Few s) (hb : Pg.Bd n g) (hn : n ≤ 30000) : Pg.Fits g s := Pg.fits_of g n s hb (by unfold Few at h; omega)
theorem Few.sm {s : Sp} (h : Few s) {j : Nat} (hj : j ≤ 30000) : Sm s j := by unfold Sm; unfold Few at h; omega
def Any (r : Int) : Prop := -9223372036854775808 ≤ r ∧ r ≤ 9223372036854775807
end Sim
namespace Go.Proofs.YtgdhcgnmffgkiaaGreatDoor
variable (w0 : World)
open Go.Vc Sim
set_option maxHeartbeats 4000000
theorem fnL {w0 : World} {α : Type} {f : FuncId} {args : List Value} {p : Nat} {g : Pg α} {enc : α → Value} (spec : FnG w0 [] f args p g enc) {n : Nat} (hb : Pg.Bd n g) (hn : n ≤ 30000 := by decide) (s : Sp) (hs : Few s) :
    FnE PP w0 [] f args [SpaceA p s] (enc (Pg.run g s).1) [SpaceA p (Pg.run g s).2] := spec s (hs.fits hb hn)
theorem getD_some {l : List Int} {n : Nat} (h : n < l.length) : l[n]? = some (l.getD n 0) := by
 rw [List.getD_eq_getElem?_getD, List.getElem?_eq_getElem h]; rfl
theorem okH (r : Int) (h : Any r) : (⟨awP, r⟩ : He).Ok := ⟨awP_ok, h.1, h.2⟩
theorem okF (r : Int) (h : Any r) : (⟨awP, r⟩ : Fo).Ok := ⟨awP_ok, h.1, h.2⟩
theorem okA (r : Int) (h : Any r) : (⟨awP, r⟩ : Ar).Ok := ⟨awP_ok, h.1, h.2⟩
theorem okG (r : Int) (h : Any r) : (⟨awP, r⟩ : Gh).Ok := ⟨awP_ok, h.1, h.2⟩
theorem okT (r : Int) (h : Any r) : (⟨awP, r⟩ : Te).Ok := ⟨awP_ok, h.1, h.2⟩
theorem okM (r : Int) (h : Any r) : (⟨awP, r, hsI, fun _ => true⟩ : Tr).Ok := ⟨awP_ok, h.1, h.2, (by show awP.nodes ≤ 100; decide), fun n => (hsI_in n).1, fun n => (hsI_in n).2⟩
theorem aPushE (hw : PowOk w0) (p : Nat) (r : Int) (hr : Any r) (x : Int) (s : Sp) (hs : Few s) : FnE PP w0 [] 79 [arrV ⟨awP, r⟩, spP p, .int .i64 x] [SpaceA p s] (encI2 (((⟨awP, r⟩ : Ar).push s x).1, ((⟨awP, r⟩ : Ar).push s x).2.1)) [SpaceA p ((⟨awP, r⟩ : Ar).push s x).2.2] :=
 push_spec w0 hw p ⟨awP, r⟩ (okA r hr) s x (hs.sm (by decide))
theorem aPopE (hw : PowOk w0) (p : Nat) (r : Int) (hr : Any r) (s : Sp) (hs : Few s) : FnE PP w0 [] 80 [arrV ⟨awP, r⟩, spP p] [SpaceA p s] (encI2 (((⟨awP, r⟩ : Ar).pop s).1, ((⟨awP, r⟩ : Ar).pop s).2.1)) [SpaceA p ((⟨awP, r⟩ : Ar).pop s).2.2] :=
 pop_spec w0 hw p ⟨awP, r⟩ (okA r hr) s (hs.sm (by decide))
theorem aGetE (hw : PowOk w0) (p : Nat) (r : Int) (hr : Any r) (x : Int) (s : Sp) (hs : Few s) : FnE PP w0 [] 81 [arrV ⟨awP, r⟩, spP p, .int .i64 x] [SpaceA p s] (encI2 (((⟨awP, r⟩ : Ar).get s x).1, ((⟨awP, r⟩ : Ar).get s x).2.1)) [SpaceA p ((⟨awP, r⟩ : Ar).get s x).2.2] :=
 aget_spec w0 hw p ⟨awP, r⟩ (okA r hr) s x (hs.sm (by decide))
theorem aSetE (hw : PowOk w0) (p : Nat) (r : Int) (hr : Any r) (x y : Int) (s : Sp) (hs : Few s) : FnE PP w0 [] 82 [arrV ⟨awP, r⟩, spP p, .int .i64 x, .int .i64 y] [SpaceA p s] (encI2 (((⟨awP, r⟩ : Ar).set s x y).1, ((⟨awP, r⟩ : Ar).set s x y).2.1)) [SpaceA p ((⟨awP, r⟩ : Ar).set s x y).2.2] :=
 aset_spec w0 hw p ⟨awP, r⟩ (okA r hr) s x y (hs.sm (by decide))
def MrOk (w0 : World) (k r : Int) (m : ByteArray × Int × Bool) : Prop :=
 ∀ (sh : Shared) (p : Nat) (s : Sp) (l : List Int) (a : Option Addr) (c : Nat), Few s → (l.length : Int) = m.2.1 → RdSl w0 sh encI 1 (.slice a l.length c) l →
   ∃ q s', FnE PP w0 sh 13 [spP p, poolV awP, rootV k r, .string m.1, .slice a l.length c] [SpaceA p s] (encI2 q) [SpaceA p s']
theorem mr_of {w0 : World} {k r : Int} {m : MRow} {sh : Shared} {p : Nat} {s s' : Sp} {l : List Int} {a : Option Addr} {c : Nat} {q : Int × Int} (hl : (l.length : Int) = m.1.2.1)
   (h : FnE PP w0 sh m.2 [onV p awP r, .slice a l.length c] [SpaceA p s] (encI2 q) [SpaceA p s'])
   (hm : ((msK k).find? fun x => decide (x.1.1 = m.1.1)) = some m := by kernel_rfl) (hk : ctName k ≠ bs [] := by decide +kernel) :
   ∃ q s', FnE PP w0 sh 13 [spP p, poolV awP, rootV k r, .string m.1.1, .slice a l.length c] [SpaceA p s] (encI2 q) [SpaceA p s'] :=
 ⟨_, _, doE w0 sh p awP k r m.1.1 a l.length c m hm hk hl.symm s _ _ h⟩
end Go.Proofs.YtgdhcgnmffgkiaaGreatDoor
