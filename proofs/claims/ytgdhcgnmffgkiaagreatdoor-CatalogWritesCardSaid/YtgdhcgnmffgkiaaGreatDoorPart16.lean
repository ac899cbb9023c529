import Derived.Test.YtgdhcgnmffgkiaaGreatDoorPart15
import Derived.Test.YtgdhcgnmffgkiaaGreatDoorPart3
/- Own work: lemmas of this claim. -/
namespace Go.Proofs.YtgdhcgnmffgkiaaGreatDoor
variable (w0 : World)
open Go.Vc Sim
set_option maxHeartbeats 4000000
theorem pop_spec (hw : PowOk w0) (p : Nat) (A : Ar) (hA : A.Ok) (s : Sp) (hsm : Sm s 24) :
   Vc.Fn PP w0 [] 80 [arrV A, spP p] [SpaceA p s] (pushRV p (A.pop s)) := by
 obtain ⟨_, h1, h2⟩ := id hA
 obtain ⟨T, fr, hw2⟩ := id hw
 generalize hm : A.many s = m
 have hsm2 : Sm m.2.2.2 24 := hm ▸ sm_many hsm
 have hM := many_spec w0 hw p A hA s (hsm.mono (by decide))
 rw [hm] at hM
 have hmo := many_ok (A := A) (s := s)
 rw [hm] at hmo
 refine zep en80 fn80 rfl rfl rfl ?_
 refine zyr ?_
 repeat' (refine zap rfl ?_;first|refine zaq (cs := [_]) rfl (fun nb => ?_)|refine zaq (cs := [_, _, _, _]) rfl (fun nb => ?_)|refine zar (fun nb => ?_))
 all_goals refine zyn ?_
 rename_i b2 b3 vb
 revert nb; intro eb
 refine zeb [1] rfl ?_
 refine run_share_keep [1] rfl ?_
 refine zyr ?_
 repeat' (refine zap rfl ?_;first|refine zan rfl ?_|refine zan rfl ?_|refine zaa 0 rfl rfl rfl ?_|refine zaa 1 rfl rfl rfl ?_|refine zah [0] hM rfl rfl rfl zdj rfl ?_|refine zan rfl ?_)
 all_goals refine zyn ?_
 refine zyr ?_
 repeat' (refine zap rfl ?_;first|refine zan rfl ?_|refine zan rfl ?_|refine zbo rfl rfl ?_)
 all_goals refine zyn ?_
 refine run_slots [(2, ptrA b2), (3, ptrA b3), (4, ptrA vb), (5, ptrA eb), (6, .int .i64 m.1), (7, .int .i64 m.2.1), (8, .bool m.2.2.1), (26, .bool (decide (m.1 = 0)))] ⟨rfl, rfl, rfl, rfl, rfl, rfl, rfl, rfl, trivial⟩ (fun junk => ?_)
 refine zed rfl (fun hZ => ?_) (fun hZ => ?_)
 · have e : A.pop s = (0, 8, m.2.2.2) := by simp only [Ar.pop, hm]; rw [if_pos hZ]
   repeat' (first|refine zck ?_|refine zcp (by kernel_rfl) ?_|(refine zap rfl ?_;first|refine zae 1 rfl rfl rfl rfl rfl rfl rfl ?_|refine zae 2 rfl rfl rfl rfl rfl rfl rfl ?_)|refine zch ?_)
   rw [e]
   exact zeg (zek (zel [0] rfl (zen rfl (zeo 1 rfl rfl rfl) (zeo 2 rfl rfl rfl) ⟨rfl, rfl, rfl⟩)))
 refine zyr ?_
 repeat' (refine zap rfl ?_;first|refine zan rfl ?_|refine zan rfl ?_|refine zbx rfl ?_)
 all_goals refine zyn ?_
 refine run_slots [(2, ptrA b2), (3, ptrA b3), (4, ptrA vb), (5, ptrA eb), (6, .int .i64 m.1), (7, .int .i64 m.2.1), (29, .bool (!m.2.2.1))] ⟨rfl, rfl, rfl, rfl, rfl, rfl, rfl, trivial⟩ (fun junk => ?_)
 refine zee rfl (fun hE => ?_) (fun hE => ?_)
 · have hE : m.2.2.1 = false := by simpa using hE
   have e : A.pop s = (0, 24, m.2.2.2) := by simp only [Ar.pop, hm]; rw [if_neg hZ, hE, if_neg (by decide)]
   repeat' (first|refine zck ?_|refine zcp (by kernel_rfl) ?_|(refine zap rfl ?_;first|refine zae 1 rfl rfl rfl rfl rfl rfl rfl ?_|refine zae 2 rfl rfl rfl rfl rfl rfl rfl ?_)|refine zch ?_)
   rw [e]
   exact zeg (zek (zel [0] rfl (zen rfl (zeo 1 rfl rfl rfl) (zeo 2 rfl rfl rfl) ⟨rfl, rfl, rfl⟩)))
 have hE : m.2.2.1 = true := by simpa using hE
 obtain ⟨_, hn0, hn1, hn2⟩ := hmo hE
 have e : A.pop s = Ar.undoPop m.2.2.2.puts.length (A.popIn m.1 m.2.1.toNat m.2.2.2) := by simp only [Ar.pop, hm]; rw [if_neg hZ, if_pos hE]
 rw [e]
 have hd4 := dep_le m.1
 have hd5 := dep_le (m.1 - 1)
 have hd6 : 0 < dep m.1 := by unfold dep; (repeat' split) <;> omega
 have hd7 : dep (m.1 - 1) ≤ dep m.1 := by unfold dep; (repeat' split) <;> omega
 have hdd : m.2.1.toNat = dep m.1 := by omega
 rw [hdd, hn2]
 generalize hmk : m.2.2.2.puts.length = mk
 generalize dep m.1 = d at *
 generalize hnn : m.1 = n at *
 generalize hss : m.2.2.2 = t at *
 have hMk := mark_spec w0 p t
 rw [hmk] at hMk
 refine zyr ?_
 repeat' (refine zap rfl ?_;first|refine zaa 0 rfl rfl rfl ?_|refine zah [0] hMk rfl rfl rfl zdj rfl ?_|refine zae 3 rfl rfl rfl rfl rfl rfl rfl ?_|refine zar (fun nb => ?_))
 all_goals refine zyn ?_
 have fin := pop_fin w0 p b3 nb eb vb mk (A.popIn n d t)
 refine zyr ?_
 repeat' (refine zap rfl ?_;first|refine zcd rfl rfl ?_|refine zan rfl ?_)
 all_goals refine zyn ?_
 refine run_slots [(2, ptrA b2), (3, ptrA b3), (4, ptrA vb), (5, ptrA eb), (6, .int .i64 n), (7, .int .i64 (d : Int))] ⟨rfl, rfl, rfl, rfl, rfl, rfl, trivial⟩ (fun junk => ?_)
 show Run PP w0 _ _ _ _ _ [popD b3 nb eb vb] [SpaceA p t, vV vb 0, eV eb 0, mVA nb mk]
 have hWs := way_spec w0 hw p A hA (n - 1) (by omega) d hd4 (d : Int) rfl t (hsm2.mono (by decide))
 have hWl := way_len A (n - 1) d A.root t []
 have hsm4 : Sm (A.way (n - 1) d A.root t []).2 24 := sm_way hsm2
 have hr : A.popIn n d t = A.popIn n d t := rfl
 conv at hr => rhs; unfold Ar.popIn
 generalize hW : A.way (n - 1) d A.root t [] = W at hr hWs hWl hsm4
 obtain ⟨o, t2⟩ := W
 cases o with
 | none =>
   have hWn : FnE PP w0 [] 167 [arrV A, spP p, .int .i64 (n - 1), .int .i64 d] [SpaceA p t] (.tuple #[.slice none 0 0, .bool false]) [SpaceA p t2] := hWs
   repeat' (first|refine zck ?_|refine zcp (by kernel_rfl) ?_|(refine zap rfl ?_;first|refine zan rfl ?_|refine zan rfl ?_|refine zaa 0 rfl rfl rfl ?_|refine zaa 1 rfl rfl rfl ?_|refine zah [0] hWn rfl rfl rfl zdj rfl ?_|refine zan rfl ?_|refine zav rfl rfl (by omega) ?_|refine zbx rfl ?_|refine zae 1 rfl rfl rfl rfl rfl rfl rfl ?_|refine zae 2 rfl rfl rfl rfl rfl rfl rfl ?_)|refine zch ?_|refine zci rfl ?_)
   exact zeg (fin _ _ _ _ rfl rfl hr)
 | some l =>
   have hl : l.length = d := by have := (hWl l rfl).1; simpa using this
   have hlb : ∀ x ∈ l, 0 ≤ x ∧ x ≤ 4096 := (hWl l rfl).2 (by simp)
   have hgD : ∀ k, k < d → l[k]? = some (l.getD k 0) ∧ 0 ≤ l.getD k 0 ∧ l.getD k 0 ≤ 4096 := fun k hk => by
     have h1 : l[k]? = some l[k] := List.getElem?_eq_getElem (by omega)
     have h2 : l.getD k 0 = l[k] := by simp [List.getD, h1]
     rw [h2]; exact ⟨h1, hlb _ (List.getElem_mem _)⟩
   dsimp only at hr hsm4
   refine zyr ?_
   repeat' (refine zap rfl ?_;first|(refine zai [0] hWs rfl rfl rfl zdj ?_; rintro v Γ' ⟨a, cap, rfl, rfl⟩)|refine zan rfl ?_|refine zan rfl ?_|refine zaa 0 rfl rfl rfl ?_|refine zaa 1 rfl rfl rfl ?_|refine zan rfl ?_|refine zav rfl rfl (by omega) ?_)
   all_goals refine zyn ?_
   refine zyr ?_
   repeat' (refine zap rfl ?_;first|refine zan rfl ?_|refine zbx rfl ?_)
   all_goals refine zyn ?_
   refine zcj rfl ?_
   refine run_sl_cases 1 rfl (fun _ hz _ _ => absurd hz (by omega)) ?_
   intro lb e1 e2 e3
   subst e1
   refine run_share_sl [1] rfl (fun spare => ?_)
   have hrd : ∀ k, k < d → ∀ o, o = k → rd false 1 (intL l ++ spare) o = some (.int .i64 (l.getD k 0)) := by
     intro k hk o ho; subst ho; exact rd_append (intL_get _ _ _ (hgD _ hk).1) (by intro h; cases h)
   refine run_slots [(2, ptrA b2), (3, ptrA b3), (4, ptrA vb), (5, ptrA eb), (6, .int .i64 n), (7, .int .i64 (d : Int)), (10, .slice (some ⟨lb, 0, none⟩) l.length cap)] ⟨rfl, rfl, rfl, rfl, rfl, rfl, rfl, trivial⟩ (fun junk => ?_)
   have hdg := dig_bd (n - 1) 1
   have hld := hgD (d - 1) (by omega)
   have hl0 := hgD 0 (by omega)
   have hG := getS w0 p t2 (l.getD (d - 1) 0 + digA (n - 1) 1) (hsm4.mono (by decide))
   have hsm5 : Sm (t2.get (l.getD (d - 1) 0 + digA (n - 1) 1)).2 24 := sm_get hsm4
   generalize t2.get (l.getD (d - 1) 0 + digA (n - 1) 1) = g at hr hG hsm5
   repeat (first|refine zck ?_|refine zcl ?_|refine zcm ?_|refine zcn ?_|refine zco ?_)
   refine zyr ?_
   repeat' (refine zap rfl ?_;first|refine zaa 0 rfl rfl (hrd (d - 1) (by omega) _ (by omega)) ?_|refine zan rfl ?_|refine zaa 1 rfl rfl rfl ?_|refine zah [] (digit_spec w0 hw (n - 1) 1 (by omega) (by omega) _ rfl) rfl rfl rfl zdj rfl ?_|refine zah [0] hG rfl rfl rfl zdj rfl ?_|refine zau rfl rfl (by omega) ?_|refine zav rfl rfl (by omega) ?_|refine zae 1 rfl rfl rfl rfl rfl rfl rfl ?_|refine zas rfl rfl (by omega) ?_)
   all_goals refine zyn ?_
   refine zyr ?_
   repeat' (refine zap rfl ?_;first|refine zan rfl ?_|refine zan rfl ?_|refine zah [] (depth_spec w0 hw _) rfl rfl rfl zdj rfl ?_|refine zav rfl rfl (by omega) ?_)
   all_goals refine zyn ?_
   refine zyr ?_
   repeat' (refine zap rfl ?_;first|refine zan rfl ?_)
   all_goals refine zyn ?_
   refine zyr ?_
   repeat' (refine zap rfl ?_;first|refine zan rfl ?_|refine zbs rfl rfl ?_)
   all_goals refine zyn ?_
   generalize hnow : dep (n - 1) = now at *
   refine run_slots [(2, ptrA b2), (3, ptrA b3), (4, ptrA vb), (5, ptrA eb), (6, .int .i64 n), (7, .int .i64 (d : Int)), (10, .slice (some ⟨lb, 0, none⟩) l.length cap), (11, .int .i64 now), (12, .int .i64 0), (61, .bool (decide (0 < now)))] ⟨rfl, rfl, rfl, rfl, rfl, rfl, rfl, rfl, rfl, bool_eq (dec_eq (by omega)), trivial⟩ (fun junk => ?_)
   refine run_join (S := Int) (fun top => [(2, ptrA b2), (3, ptrA b3), (4, ptrA vb), (5, ptrA eb), (6, .int .i64 n), (7, .int .i64 (d : Int)), (10, .slice (some ⟨lb, 0, none⟩) l.length cap), (11, .int .i64 now), (12, .int .i64 top)])
     (fun top Γ => Γ = [SpaceA p g.2, vV vb g.1, eV eb 0, mVA nb mk] ∧ top = if 0 < now then l.getD 0 0 else 0) ?_ ?_
   · by_cases h0 : 0 < now
     · refine zci (bool_eq (decide_eq_true h0)) ?_
       repeat' (first|refine zcp (by kernel_rfl) ?_|(refine zap rfl ?_;first|refine zaa 0 rfl rfl (hrd 0 (by omega) _ (by omega)) ?_|refine zan rfl ?_|refine zan rfl ?_|refine zas rfl rfl (by omega) ?_)|refine zch ?_)
       exact zeq ⟨rfl, _, ⟨rfl, rfl, rfl, rfl, rfl, rfl, rfl, rfl, rfl, trivial⟩, ⟨rfl, by rw [if_pos h0]⟩⟩
     · refine zcj (bool_eq (decide_eq_false h0)) ?_
       repeat (first|refine zck ?_|refine zcl ?_|refine zcm ?_|refine zcn ?_|refine zco ?_)
       exact zeq ⟨rfl, _, ⟨rfl, rfl, rfl, rfl, rfl, rfl, rfl, rfl, rfl, trivial⟩, ⟨rfl, by rw [if_neg h0]⟩⟩
   rintro top Γ' junk ⟨rfl, htop⟩
   repeat (first|refine zck ?_|refine zcl ?_|refine zcm ?_|refine zcn ?_|refine zco ?_)
   refine run_join (S := Unit) (fun _ => [(2, ptrA b2), (3, ptrA b3), (4, ptrA vb), (5, ptrA eb), (6, .int .i64 n), (7, .int .i64 (d : Int)), (10, .slice (some ⟨lb, 0, none⟩) l.length cap), (11, .int .i64 now), (12, .int .i64 top), (71, .bool (decide (0 < now ∧ now < d)))])
     (fun _ Γ => Γ = [SpaceA p g.2, vV vb g.1, eV eb 0, mVA nb mk]) ?_ ?_
   · by_cases h0 : 0 < now
     · by_cases h1 : now < d
       · have d0 : decide ((0 : Int) < (now : Int)) = true := decide_eq_true (by omega)
         have d1 : decide ((now : Int) < (d : Int)) = true := decide_eq_true (by omega)
         repeat' (first|refine zcp (by kernel_rfl) ?_|(refine zap rfl ?_;first|(refine zbs rfl rfl ?_; rw [d0])|(refine zbq rfl rfl ?_; rw [d1])|refine zaj rfl ?_|refine zan rfl ?_|refine zbu rfl ?_)|refine zch ?_)
         exact zeq ⟨rfl, (), ⟨rfl, rfl, rfl, rfl, rfl, rfl, rfl, rfl, rfl, bool_eq (by simp [h0, h1]), trivial⟩, rfl⟩
       · have d0 : decide ((0 : Int) < (now : Int)) = true := decide_eq_true (by omega)
         have d1 : decide ((now : Int) < (d : Int)) = false := decide_eq_false (by omega)
         repeat' (first|refine zcp (by kernel_rfl) ?_|(refine zap rfl ?_;first|(refine zbs rfl rfl ?_; rw [d0])|(refine zbq rfl rfl ?_; rw [d1])|refine zaj rfl ?_|refine zan rfl ?_|refine zbu rfl ?_)|refine zch ?_)
         exact zeq ⟨rfl, (), ⟨rfl, rfl, rfl, rfl, rfl, rfl, rfl, rfl, rfl, bool_eq (by simp [h1]), trivial⟩, rfl⟩
     · have d0 : decide ((0 : Int) < (now : Int)) = false := decide_eq_false (by omega)
       repeat' (first|refine zcp (by kernel_rfl) ?_|(refine zap rfl ?_;first|(refine zbs rfl rfl ?_; rw [d0])|refine zak rfl ?_|refine zan rfl ?_|refine zbv rfl ?_)|refine zch ?_)
       exact zeq ⟨rfl, (), ⟨rfl, rfl, rfl, rfl, rfl, rfl, rfl, rfl, rfl, bool_eq (by simp [h0]), trivial⟩, rfl⟩
   rintro _ Γ' junk rfl
   repeat (first|refine zck ?_|refine zcl ?_|refine zcm ?_|refine zcn ?_|refine zco ?_)
   refine run_join (S := Int × Sp) (fun st => [(2, ptrA b2), (3, ptrA b3), (4, ptrA vb), (5, ptrA eb), (6, .int .i64 n), (7, .int .i64 (d : Int)), (10, .slice (some ⟨lb, 0, none⟩) l.length cap), (11, .int .i64 now), (12, .int .i64 st.1)])
     (fun st Γ => Γ = [SpaceA p st.2, vV vb g.1, eV eb 0, mVA nb mk] ∧ Sm st.2 24 ∧ A.popIn n d t = A.popOn n d now l g.1 st.1 st.2) ?_ ?_
   · by_cases hc : 0 < now ∧ now < d
     · refine zci (bool_eq (decide_eq_true hc)) ?_
       rw [if_pos hc] at hr
       have hN := anode_spec w0 p A hA g.2 (l.getD 0 0) (hsm5.mono (by decide))
       have hsm6 : Sm (A.node g.2 (l.getD 0 0)).2.2 24 := sm_node hsm5
       generalize A.node g.2 (l.getD 0 0) = x at hr hN hsm6
       refine zyr ?_
       repeat' (refine zap rfl ?_;first|refine zaa 0 rfl rfl (hrd 0 (by omega) _ (by omega)) ?_|refine zan rfl ?_|refine zan rfl ?_|refine zaa 1 rfl rfl rfl ?_|refine zaa 2 rfl rfl rfl ?_|refine zah [0] hN rfl rfl rfl zdj rfl ?_|refine zan rfl ?_|refine zas rfl rfl (by omega) ?_)
       all_goals refine zyn ?_
       refine zyr ?_
       repeat' (refine zap rfl ?_;first|refine zan rfl ?_|refine zbx rfl ?_)
       all_goals refine zyn ?_
       refine zee rfl (fun hE => ?_) (fun hE => ?_)
       · have hE : x.2.1 = false := by simpa using hE
         rw [hE, if_neg (by decide)] at hr
         repeat' (first|refine zck ?_|refine zcp (by kernel_rfl) ?_|(refine zap rfl ?_;first|refine zae 1 rfl rfl rfl rfl rfl rfl rfl ?_|refine zae 2 rfl rfl rfl rfl rfl rfl rfl ?_)|refine zch ?_)
         exact zeg (fin _ _ _ _ rfl rfl hr)
       · have hE : x.2.1 = true := by simpa using hE
         rw [if_pos hE] at hr
         repeat' (first|refine zcp (by kernel_rfl) ?_|refine zcm ?_|(refine zap rfl ?_;first|refine zan rfl ?_|refine zan rfl ?_)|refine zch ?_)
         exact zeq ⟨rfl, (x.1, x.2.2), ⟨rfl, rfl, rfl, rfl, rfl, rfl, rfl, rfl, rfl, trivial⟩, ⟨rfl, hsm6, hr⟩⟩
     · refine zcj (bool_eq (decide_eq_false hc)) ?_
       rw [if_neg hc, ← htop] at hr
       repeat (first|refine zck ?_|refine zcl ?_|refine zcm ?_|refine zcn ?_|refine zco ?_)
       exact zeq ⟨rfl, (top, g.2), ⟨rfl, rfl, rfl, rfl, rfl, rfl, rfl, rfl, rfl, trivial⟩, ⟨rfl, hsm5, hr⟩⟩
   rintro ⟨top, s3⟩ Γ' junk ⟨rfl, hsm6, hr2⟩
   dsimp only at hsm6 hr2 ⊢
   have hr3 : A.popIn n d t = (if (A.gives n d now l 0 0 s3).1 = 0 then (g.1, 0, A.fell n d now top (A.gives n d now l 0 0 s3).2.1 (A.gives n d now l 0 0 s3).2.2) else (0, (A.gives n d now l 0 0 s3).1, (A.gives n d now l 0 0 s3).2.2)) := hr2
   repeat (first|refine zck ?_|refine zcl ?_|refine zcm ?_|refine zcn ?_|refine zco ?_)
   refine zyr ?_
   repeat' (refine zap rfl ?_;first|refine zan rfl ?_)
   all_goals refine zyn ?_
   refine zyr ?_
   repeat' (refine zap rfl ?_;first|refine zan rfl ?_|refine zce rfl ?_)
   all_goals refine zyn ?_
   refine run_loop (S := Nat × Int × Sp) (fun st => [(2, ptrA b2), (3, ptrA b3), (4, ptrA vb), (5, ptrA eb), (6, .int .i64 n), (7, .int .i64 (d : Int)), (11, .int .i64 now), (12, .int .i64 top), (15, .int .i64 st.2.1), (84, .slice (some ⟨lb, 0, none⟩) l.length cap), (85, .int .i64 l.length), (86, .int .i64 (st.1 : Int))])
     (fun st Γ => Γ = [SpaceA p st.2.2, vV vb g.1, eV eb 0, mVA nb mk] ∧ st.1 ≤ d ∧ Sm st.2.2 (4 + 3 * (d - st.1)) ∧ (0 ≤ st.2.1 ∧ st.2.1 ≤ st.1) ∧ A.gives n d now l 0 0 s3 = A.gives n d now (l.drop st.1) st.1 st.2.1 st.2.2)
     (fun st => d - st.1) (0, 0, s3) ⟨rfl, rfl, rfl, rfl, rfl, rfl, rfl, rfl, rfl, rfl, rfl, rfl, trivial⟩ ⟨rfl, Nat.zero_le _, hsm6.mono (by dsimp only; omega), ⟨Int.le_refl _, Int.le_refl _⟩, rfl⟩ ?_
   rintro ⟨i, gone, s4⟩ Γ' junk ⟨rfl, hid, hsm7, hgb, hgv⟩
   dsimp only at hid hsm7 hgb hgv ⊢
   rw [hgv] at hr3
   by_cases hi : i < d
   rotate_left
   · have hid2 : i = d := by omega
     subst hid2
     rw [show l.drop i = [] from by rw [List.drop_eq_nil_iff]; omega] at hr3
     have hg0 : A.gives n i now [] i gone s4 = (0, gone, s4) := rfl
     rw [hg0] at hr3
     dsimp only at hr3
     rw [if_pos rfl] at hr3
     refine zyr ?_
     repeat' (refine zap rfl ?_;first|refine zbq rfl rfl ?_)
     all_goals refine zyn ?_
     refine zcj (bool_eq (decide_eq_false (by omega))) ?_
     repeat (first|refine zck ?_|refine zcl ?_|refine zcm ?_|refine zcn ?_|refine zco ?_)
     refine zer rfl rfl ?_
     have hsm8 : Sm s4 4 := hsm7.mono (by omega)
     unfold Ar.fell at hr3
     dsimp only at hr3
     repeat (first|refine zck ?_|refine zcl ?_|refine zcm ?_|refine zcn ?_|refine zco ?_)
     refine zyr ?_
     repeat' (refine zap rfl ?_;first|refine zan rfl ?_|refine zbs rfl rfl ?_)
     all_goals refine zyn ?_
     refine run_join (S := Sp) (fun _ => [(2, ptrA b2), (3, ptrA b3), (4, ptrA vb), (5, ptrA eb), (6, .int .i64 n), (7, .int .i64 (i : Int)), (11, .int .i64 now), (12, .int .i64 top)])
       (fun st Γ => Γ = [SpaceA p st, vV vb g.1, eV eb 0, mVA nb mk] ∧ Sm st 3 ∧ (if 0 < gone then (s4.get (A.root + 7)).2.put (A.root + 7) (w64 ((s4.get (A.root + 7)).1 - gone)) else s4) = st) ?_ ?_
     · by_cases hz : 0 < gone
       · refine zci (bool_eq (decide_eq_true hz)) ?_
         have hsm := hsm8
         repeat' (first|refine zcq PP_mixed (by kernel_rfl) (by kernel_rfl) ?_|(refine zap rfl ?_;first|refine zev (t := 2) rfl rfl ?_|refine zan rfl ?_|refine zaa 1 rfl rfl rfl ?_|refine zaa 2 rfl rfl rfl ?_|refine zah [0] (getS w0 p _ _ (by first|exact hsm.mono (by decide) | (repeat (first|refine sm_get ?_|refine sm_put ?_|refine sm_node ?_|refine sm_take ?_|refine sm_many ?_|refine sm_way ?_|refine sm_poolTake ?_|refine sm_give ?_|refine sm_place ?_)); exact hsm.mono (by decide))) rfl rfl rfl zdj rfl ?_|refine zah [0] (putS w0 p _ _ _ (by first|exact hsm.mono (by decide) | (repeat (first|refine sm_get ?_|refine sm_put ?_|refine sm_node ?_|refine sm_take ?_|refine sm_many ?_|refine sm_way ?_|refine sm_poolTake ?_|refine sm_give ?_|refine sm_place ?_)); exact hsm.mono (by decide))) rfl rfl rfl zdj rfl ?_|refine zao rfl ?_|refine zau rfl rfl (by omega) ?_)|refine zch ?_)
         exact zeq ⟨rfl, _, ⟨rfl, rfl, rfl, rfl, rfl, rfl, rfl, rfl, trivial⟩, ⟨rfl, sm_put (sm_get hsm8), by rw [if_pos hz]; rfl⟩⟩
       · refine zcj (bool_eq (decide_eq_false hz)) ?_
         repeat (first|refine zck ?_|refine zcl ?_|refine zcm ?_|refine zcn ?_|refine zco ?_)
         exact zeq ⟨rfl, _, ⟨rfl, rfl, rfl, rfl, rfl, rfl, rfl, rfl, trivial⟩, ⟨rfl, hsm8.mono (by decide), by rw [if_neg hz]⟩⟩
     rintro s5 Γ' junk ⟨rfl, hsm9, he5⟩
     rw [he5] at hr3
     repeat (first|refine zck ?_|refine zcl ?_|refine zcm ?_|refine zcn ?_|refine zco ?_)
     refine zyr ?_
     repeat' (refine zap rfl ?_;first|refine zan rfl ?_|refine zbq rfl rfl ?_)
     all_goals refine zyn ?_
     refine run_join (S := Sp) (fun _ => [(2, ptrA b2), (3, ptrA b3), (4, ptrA vb), (5, ptrA eb), (6, .int .i64 n)])
       (fun st Γ => Γ = [SpaceA p st, vV vb g.1, eV eb 0, mVA nb mk] ∧ Sm st 1 ∧ (if now < i then (s5.put A.root top).put (A.root + 2) now else s5) = st) ?_ ?_
     · by_cases hz : now < i
       · refine zci (bool_eq (decide_eq_true (by omega))) ?_
         have hsm := hsm9
         repeat' (first|refine zck ?_|refine zcp (by kernel_rfl) ?_|(refine zap rfl ?_;first|(refine zau rfl rfl (by omega) ?_; rw [Int.add_zero])|refine zan rfl ?_|refine zaa 1 rfl rfl rfl ?_|refine zaa 2 rfl rfl rfl ?_|refine zah [0] (putS w0 p _ _ _ (by first|exact hsm.mono (by decide) | (repeat (first|refine sm_get ?_|refine sm_put ?_|refine sm_node ?_|refine sm_take ?_|refine sm_many ?_|refine sm_way ?_|refine sm_poolTake ?_|refine sm_give ?_|refine sm_place ?_)); exact hsm.mono (by decide))) rfl rfl rfl zdj rfl ?_|refine zao rfl ?_|refine zau rfl rfl (by omega) ?_)|refine zch ?_)
         exact zeq ⟨rfl, _, ⟨rfl, rfl, rfl, rfl, rfl, trivial⟩, ⟨rfl, sm_put (sm_put hsm9), by rw [if_pos hz]⟩⟩
       · refine zcj (bool_eq (decide_eq_false (by omega))) ?_
         repeat (first|refine zck ?_|refine zcl ?_|refine zcm ?_|refine zcn ?_|refine zco ?_)
         exact zeq ⟨rfl, _, ⟨rfl, rfl, rfl, rfl, rfl, trivial⟩, ⟨rfl, hsm9.mono (by decide), by rw [if_neg hz]⟩⟩
     rintro s6 Γ' junk ⟨rfl, hsm10, he6⟩
     rw [he6] at hr3
     have hsm := hsm10
     repeat' (first|refine zck ?_|refine zcp (by kernel_rfl) ?_|(refine zap rfl ?_;first|refine zan rfl ?_|refine zaa 1 rfl rfl rfl ?_|refine zaa 2 rfl rfl rfl ?_|refine zab 1 rfl rfl rfl ?_|refine zah [0] (putS w0 p _ _ _ (by first|exact hsm.mono (by decide) | (repeat (first|refine sm_get ?_|refine sm_put ?_|refine sm_node ?_|refine sm_take ?_|refine sm_many ?_|refine sm_way ?_|refine sm_poolTake ?_|refine sm_give ?_|refine sm_place ?_)); exact hsm.mono (by decide))) rfl rfl rfl zdj rfl ?_|refine zao rfl ?_|refine zau rfl rfl (by omega) ?_|refine zav rfl rfl (by omega) ?_|refine zae 1 rfl rfl rfl rfl rfl rfl rfl ?_|refine zae 2 rfl rfl rfl rfl rfl rfl rfl ?_)|refine zch ?_)
     exact zeg (fin _ _ _ _ rfl rfl hr3)
   · obtain ⟨hli, hlb1, hlb2⟩ := hgD i hi
     have hdrop : l.drop i = l.getD i 0 :: l.drop (i + 1) := by
       rw [List.drop_eq_getElem_cons (by omega)]
       congr 1
       have := hli; rw [List.getElem?_eq_getElem (by omega)] at this; exact Option.some.inj this
     rw [hdrop] at hr3 hgv
     have hgu : A.gives n d now (l.getD i 0 :: l.drop (i + 1)) i gone s4 = A.gives n d now (l.getD i 0 :: l.drop (i + 1)) i gone s4 := rfl
     conv at hgu => rhs; unfold Ar.gives
     rw [hgu] at hr3 hgv
     have hsm8 : Sm s4 (4 + 3 * (d - (i + 1)) + 3) := hsm7.mono (by omega)
     have hp := pw_pos (d - i)
     refine zyr ?_
     repeat' (refine zap rfl ?_;first|refine zbq rfl rfl ?_)
     all_goals refine zyn ?_
     refine zci (bool_eq (decide_eq_true (by omega))) ?_
     repeat (first|refine zck ?_|refine zcl ?_|refine zcm ?_|refine zcn ?_|refine zco ?_)
     refine zyr ?_
     repeat' (refine zap rfl ?_;first|refine zaa 0 rfl rfl (hrd i hi _ (by omega)) ?_|refine zan rfl ?_|refine zan rfl ?_|refine zas rfl rfl (by omega) ?_)
     all_goals refine zyn ?_
     refine run_join (S := Unit) (fun _ => [(2, ptrA b2), (3, ptrA b3), (4, ptrA vb), (5, ptrA eb), (6, .int .i64 n), (7, .int .i64 (d : Int)), (11, .int .i64 now), (12, .int .i64 top), (15, .int .i64 gone), (84, .slice (some ⟨lb, 0, none⟩) l.length cap), (85, .int .i64 l.length), (86, .int .i64 (i : Int)), (17, .int .i64 (l.getD i 0)), (108, .bool (decide ((n - 1) % pw (d - i) ≠ 0 ∧ (0 < i ∨ now = d))))])
       (fun _ Γ => Γ = [SpaceA p s4, vV vb g.1, eV eb 0, mVA nb mk]) ?_ ?_
     · by_cases hc1 : (n - 1) % pw (d - i) ≠ 0
       · have d1 : decide ((n - 1) % pw (d - i) ≠ 0) = true := decide_eq_true hc1
         by_cases hc2 : 0 < i
         · have d2 : decide ((0 : Int) < (i : Int)) = true := decide_eq_true (by omega)
           repeat' (first|refine zcp (by kernel_rfl) ?_|(refine zap rfl ?_;first|refine zac rfl hw2 (powL_rd (d - i) (by omega) _ (by omega)) ?_|(refine zbp rfl rfl ?_; rw [d1])|(refine zbs rfl rfl ?_; rw [d2])|refine zaj rfl ?_|refine zak rfl ?_|refine zan rfl ?_|refine zav rfl rfl (by omega) ?_|refine zay rfl rfl (by omega) ?_|refine zbu rfl ?_|refine zat rfl rfl (by omega) ?_)|refine zch ?_)
           exact zeq ⟨rfl, (), ⟨rfl, rfl, rfl, rfl, rfl, rfl, rfl, rfl, rfl, rfl, rfl, rfl, rfl, bool_eq (by simp [hc1, hc2]), trivial⟩, rfl⟩
         · have d2 : decide ((0 : Int) < (i : Int)) = false := decide_eq_false (by omega)
           by_cases hc3 : now = d
           · have d3 : decide ((now : Int) = (d : Int)) = true := decide_eq_true (by omega)
             repeat' (first|refine zcp (by kernel_rfl) ?_|(refine zap rfl ?_;first|refine zac rfl hw2 (powL_rd (d - i) (by omega) _ (by omega)) ?_|(refine zbp rfl rfl ?_; rw [d1])|(refine zbs rfl rfl ?_; rw [d2])|(refine zbo rfl rfl ?_; rw [d3])|refine zaj rfl ?_|refine zan rfl ?_|refine zav rfl rfl (by omega) ?_|refine zay rfl rfl (by omega) ?_|refine zbu rfl ?_|refine zbv rfl ?_|refine zat rfl rfl (by omega) ?_)|refine zch ?_)
             exact zeq ⟨rfl, (), ⟨rfl, rfl, rfl, rfl, rfl, rfl, rfl, rfl, rfl, rfl, rfl, rfl, rfl, bool_eq (by simp [hc1, hc3]), trivial⟩, rfl⟩
           · have d3 : decide ((now : Int) = (d : Int)) = false := decide_eq_false (by omega)
             repeat' (first|refine zcp (by kernel_rfl) ?_|(refine zap rfl ?_;first|refine zac rfl hw2 (powL_rd (d - i) (by omega) _ (by omega)) ?_|(refine zbp rfl rfl ?_; rw [d1])|(refine zbs rfl rfl ?_; rw [d2])|(refine zbo rfl rfl ?_; rw [d3])|refine zaj rfl ?_|refine zan rfl ?_|refine zav rfl rfl (by omega) ?_|refine zay rfl rfl (by omega) ?_|refine zbu rfl ?_|refine zbv rfl ?_|refine zat rfl rfl (by omega) ?_)|refine zch ?_)
             exact zeq ⟨rfl, (), ⟨rfl, rfl, rfl, rfl, rfl, rfl, rfl, rfl, rfl, rfl, rfl, rfl, rfl, bool_eq (by simp [hc2, hc3]), trivial⟩, rfl⟩
       · have d1 : decide ((n - 1) % pw (d - i) ≠ 0) = false := decide_eq_false hc1
         repeat' (first|refine zcp (by kernel_rfl) ?_|(refine zap rfl ?_;first|refine zac rfl hw2 (powL_rd (d - i) (by omega) _ (by omega)) ?_|(refine zbp rfl rfl ?_; rw [d1])|refine zak rfl ?_|refine zal rfl ?_|refine zan rfl ?_|refine zav rfl rfl (by omega) ?_|refine zay rfl rfl (by omega) ?_|refine zbv rfl ?_|refine zat rfl rfl (by omega) ?_)|refine zch ?_)
         exact zeq ⟨rfl, (), ⟨rfl, rfl, rfl, rfl, rfl, rfl, rfl, rfl, rfl, rfl, rfl, rfl, rfl, bool_eq (by simp [hc1]), trivial⟩, rfl⟩
     rintro _ Γ' junk rfl
     repeat (first|refine zck ?_|refine zcl ?_|refine zcm ?_|refine zcn ?_|refine zco ?_)
     by_cases hc : (n - 1) % pw (d - i) ≠ 0 ∧ (0 < i ∨ now = d)
     · refine zci (bool_eq (decide_eq_true hc)) ?_
       rw [if_pos hc] at hgv
       repeat' (first|refine zcp (by kernel_rfl) ?_|refine zcs rfl ?_|(refine zap rfl ?_;first|refine zan rfl ?_|refine zau rfl rfl (by omega) ?_)|refine zch ?_)
       exact zeq ⟨rfl, (i + 1, gone, s4), ⟨rfl, rfl, rfl, rfl, rfl, rfl, rfl, rfl, rfl, rfl, rfl, zes (by dsimp only; omega), trivial⟩, ⟨rfl, hi, hsm8.mono (by dsimp only; omega), ⟨hgb.1, by dsimp only; omega⟩, hgv⟩, by dsimp only; omega⟩
     · refine zcj (bool_eq (decide_eq_false hc)) ?_
       rw [if_neg hc] at hgv hr3
       have hGv := give_spec w0 p A.pool hA.1 s4 (l.getD i 0) (hsm8.mono (by omega))
       have hsm9 : Sm (A.pool.give s4 (l.getD i 0)).2 (4 + 3 * (d - (i + 1))) := sm_give hsm8
       generalize A.pool.give s4 (l.getD i 0) = y at hgv hr3 hGv hsm9
       repeat (first|refine zck ?_|refine zcl ?_|refine zcm ?_|refine zcn ?_|refine zco ?_)
       refine zyr ?_
       repeat' (refine zap rfl ?_;first|refine zan rfl ?_|refine zan rfl ?_|refine zaa 1 rfl rfl rfl ?_|refine zaa 2 rfl rfl rfl ?_|refine zah [0] hGv rfl rfl rfl zdj rfl ?_|refine zao rfl ?_)
       all_goals refine zyn ?_
       refine zyr ?_
       repeat' (refine zap rfl ?_;first|refine zan rfl ?_|refine zbp rfl rfl ?_)
       all_goals refine zyn ?_
       refine zed rfl (fun hE => ?_) (fun hE => ?_)
       · rw [if_neg hE] at hr3
         dsimp only at hr3
         rw [if_neg hE] at hr3
         repeat' (first|refine zck ?_|refine zcp (by kernel_rfl) ?_|(refine zap rfl ?_;first|refine zan rfl ?_|refine zae 1 rfl rfl rfl rfl rfl rfl rfl ?_|refine zae 2 rfl rfl rfl rfl rfl rfl rfl ?_)|refine zch ?_)
         exact zeg (fin _ _ _ _ rfl rfl hr3)
       · have hE : y.1 = 0 := Decidable.of_not_not hE
         rw [if_pos hE] at hgv
         repeat' (first|refine zcp (by kernel_rfl) ?_|refine zcm ?_|refine zcn ?_|(refine zap rfl ?_;first|refine zan rfl ?_|refine zan rfl ?_|refine zau rfl rfl (by omega) ?_)|refine zch ?_)
         exact zeq ⟨rfl, (i + 1, gone + 1, y.2), ⟨rfl, rfl, rfl, rfl, rfl, rfl, rfl, rfl, rfl, rfl, rfl, zes (by dsimp only; omega), trivial⟩, ⟨rfl, hi, hsm9, ⟨by dsimp only; omega, by dsimp only; omega⟩, hgv⟩, by dsimp only; omega⟩
end Go.Proofs.YtgdhcgnmffgkiaaGreatDoor
namespace Sim.Aq
open Go Go.Vc Pg
theorem r_pt (a v : Int) (s : Sp) : run (pt a v) s = ((), s.put a v) := rfl
theorem r_pure {α : Type} (a : α) (s : Sp) : run (pure a : Pg α) s = (a, s) := rfl
theorem r_ite {α : Type} (c : Prop) {i : Decidable c} (x y : Pg α) (s : Sp) : run (@ite (Pg α) c i x y) s = @ite (α × Sp) c i (run x s) (run y s) := by split <;> rfl
theorem rb {α β : Type} {g : Pg α} {s : Sp} {r : α × Sp} (h : run g s = r) (k : α → Pg β) : run (g >>= k) s = run (k r.1) r.2 := by rw [run_bind, h]
theorem rb_gt {β : Type} (a : Int) (k : Int → Pg β) (s : Sp) : run (gt a >>= k) s = run (k (s.get a).1) (s.get a).2 := rfl
theorem rb_pt {β : Type} (a v : Int) (k : Unit → Pg β) (s : Sp) : run (pt a v >>= k) s = run (k ()) (s.put a v) := rfl
theorem rb_mk {β : Type} (k : Nat → Pg β) (s : Sp) : run (mk >>= k) s = run (k s.puts.length) s := rfl
theorem rb_bk {β : Type} (m : Nat) (k : Unit → Pg β) (s : Sp) : run (bk m >>= k) s = run (k ()) (s.back m) := rfl
theorem rb_pure {α β : Type} (a : α) (k : α → Pg β) (s : Sp) : run ((pure a : Pg α) >>= k) s = run (k a) s := rfl
theorem r_takeP (P : Pl) (s : Sp) : run P.takeP s = (((P.take s).1, (P.take s).2.1), (P.take s).2.2) := by
 unfold Pl.takeP Pl.take Pl.add Pl.addP
 simp only [rb_gt, rb_pt, r_ite, r_pure]
 split
 · split <;> rfl
 · split <;> rfl
theorem rb_takeP {β : Type} (P : Pl) (s : Sp) (k : _ → Pg β) : run (P.takeP >>= k) s = run (k ((((P.take s).1, (P.take s).2.1), (P.take s).2.2)).1) ((((P.take s).1, (P.take s).2.1), (P.take s).2.2)).2 := rb (r_takeP P s) k
theorem r_giveP (P : Pl) (a : Int) (s : Sp) : run (P.giveP a) s = P.give s a := by
 unfold Pl.giveP Pl.give Pl.add Pl.addP
 simp only [rb_gt, rb_pt, r_ite, r_pure]
 rfl
theorem rb_giveP {β : Type} (P : Pl) (a : Int) (s : Sp) (k : _ → Pg β) : run ((P.giveP a) >>= k) s = run (k (P.give s a).1) (P.give s a).2 := rb (r_giveP P a s) k
variable (A : Ar)
def many : Pg (Int × Int × Bool) := do
 let n ← gt (A.root + 1)
 if n < 0 ∨ 4096 < n then pure (n, 0, false) else do
   let d ← gt (A.root + 2)
   pure (n, (dep n : Int), decide (d = dep n))
theorem r_many (s : Sp) : run (many A) s = (((A.many s).1, (A.many s).2.1, (A.many s).2.2.1), (A.many s).2.2.2) := by
 unfold Aq.many Ar.many
 simp only [rb_gt, r_ite, r_pure]
 split <;> rfl
theorem rb_many {β : Type} (s : Sp) (k : _ → Pg β) : run ((many A) >>= k) s = run (k ((((A.many s).1, (A.many s).2.1, (A.many s).2.2.1), (A.many s).2.2.2)).1) ((((A.many s).1, (A.many s).2.1, (A.many s).2.2.1), (A.many s).2.2.2)).2 := rb (r_many A s) k
def node (c : Int) : Pg (Int × Bool) := do
 let v ← gt c
 if v ≤ 0 ∨ 4096 < v then pure (0, false) else pure (v, A.pool.node v)
theorem r_node (c : Int) (s : Sp) : run (node A c) s = (((A.node s c).1, (A.node s c).2.1), (A.node s c).2.2) := by
 unfold Aq.node Ar.node
 simp only [rb_gt, r_ite, r_pure]
 split <;> rfl
theorem rb_node {β : Type} (c : Int) (s : Sp) (k : _ → Pg β) : run ((node A c) >>= k) s = run (k ((((A.node s c).1, (A.node s c).2.1), (A.node s c).2.2)).1) ((((A.node s c).1, (A.node s c).2.1), (A.node s c).2.2)).2 := rb (r_node A c s) k
def take : Pg (Int × Int) := do
 let t ← A.pool.takeP
 if t.2 = 0 then do
   let v ← gt (A.root + 7)
   let _ ← pt (A.root + 7) (w64 (v + 1))
   pure t
 else pure t
theorem r_take (s : Sp) : run (take A) s = (((A.take s).1, (A.take s).2.1), (A.take s).2.2) := by
 unfold Aq.take Ar.take
 simp only [rb_takeP, rb_gt, rb_pt, r_ite, r_pure]
 split <;> rfl
theorem rb_take {β : Type} (s : Sp) (k : _ → Pg β) : run ((take A) >>= k) s = run (k ((((A.take s).1, (A.take s).2.1), (A.take s).2.2)).1) ((((A.take s).1, (A.take s).2.1), (A.take s).2.2)).2 := rb (r_take A s) k
def way (i : Int) : Nat → Int → List Int → Pg (Option (List Int))
 | 0, _, acc => pure (some acc)
 | d + 1, c, acc => do
   let x ← node A c
   if x.2 = true then way i d (x.1 + digA i (d + 1)) (acc ++ [x.1]) else pure none
theorem r_way (i : Int) : ∀ (d : Nat) (c : Int) (acc : List Int) (s : Sp), run (way A i d c acc) s = A.way i d c s acc
 | 0, _, _, _ => rfl
 | d + 1, c, acc, s => by
   unfold Aq.way Ar.way
   simp only [rb_node, r_ite, r_pure]
   split
   · exact r_way i d _ _ _
   · rfl
theorem rb_way {β : Type} (i : Int) (d : Nat) (c : Int) (acc : List Int) (s : Sp) (k : _ → Pg β) : run ((way A i d c acc) >>= k) s = run (k (A.way i d c s acc).1) (A.way i d c s acc).2 := rb (r_way A i d c acc s) k
def placeO (i : Int) : Option (List Int) → Int × Int
 | none => (0, 24)
 | some l => (lastD l + digA i 1, 0)
def place (i : Int) : Pg (Int × Int) :=
 if i < 0 then pure (0, 3) else do
 let n ← gt (A.root + 1)
 if n ≤ i then pure (0, 3) else do
   let m ← many A
   if m.2.2 = true then do
     let l ← way A i m.2.1.toNat A.root []
     pure (placeO i l)
   else pure (0, 24)
theorem r_place (i : Int) (s : Sp) : run (place A i) s = (((A.place s i).1, (A.place s i).2.1), (A.place s i).2.2) := by
 unfold Aq.place Ar.place
 simp only [rb_gt, rb_many, rb_way, r_ite, r_pure]
 split
 · rfl
 · split
   · rfl
   · split
     · generalize A.way i _ A.root _ [] = w
       obtain ⟨l, t⟩ := w
       cases l <;> rfl
     · rfl
theorem rb_place {β : Type} (i : Int) (s : Sp) (k : _ → Pg β) : run ((place A i) >>= k) s = run (k ((((A.place s i).1, (A.place s i).2.1), (A.place s i).2.2)).1) ((((A.place s i).1, (A.place s i).2.1), (A.place s i).2.2)).2 := rb (r_place A i s) k
def get (i : Int) : Pg (Int × Int) := do
 let a ← place A i
 if a.2 = 0 then do
   let v ← gt a.1
   pure (v, 0)
 else pure (0, a.2)
theorem r_get (i : Int) (s : Sp) : run (get A i) s = (((A.get s i).1, (A.get s i).2.1), (A.get s i).2.2) := by
 unfold Aq.get Ar.get
 simp only [rb_gt, rb_place, r_ite, r_pure]
 split <;> rfl
def set (i v : Int) : Pg (Int × Int) := do
 let a ← place A i
 if a.2 = 0 then do
   let u ← gt a.1
   let _ ← pt a.1 v
   pure (u, 0)
 else pure (0, a.2)
theorem r_set (i v : Int) (s : Sp) : run (set A i v) s = (((A.set s i v).1, (A.set s i v).2.1), (A.set s i v).2.2) := by
 unfold Aq.set Ar.set
 simp only [rb_gt, rb_pt, rb_place, r_ite, r_pure]
 split <;> rfl
def swap (i j : Int) : Pg Int := do
 let g ← gt (A.root + 1)
 if i < 0 ∨ j < 0 ∨ g ≤ i ∨ g ≤ j then pure 3 else do
   let x ← place A i
   if x.2 = 0 then do
     let y ← place A j
     if y.2 = 0 then do
       let v ← gt x.1
       let w ← gt y.1
       let _ ← pt x.1 w
       let _ ← pt y.1 v
       pure 0
     else pure y.2
   else pure x.2
theorem r_swap (i j : Int) (s : Sp) : run (swap A i j) s = A.swap s i j := by
 unfold Aq.swap Ar.swap
 simp only [rb_gt, rb_pt, rb_place, r_ite, r_pure]
def grow (n : Int) (d : Nat) : Pg Int := do
 let r ← gt A.root
 let c ← (if 0 < d then node A A.root else pure (0, true))
 if c.2 = true then do
   let t ← take A
   if t.2 = 0 then do
     let _ ← (if 0 < d then pt t.1 r else pure ())
     let _ ← pt A.root t.1
     let _ ← pt (A.root + 2) (dep (n + 1))
     pure 0
   else pure t.2
 else pure 24
theorem r_grow (n : Int) (d : Nat) (s : Sp) : run (grow A n d) s = A.grow n d s := by
 unfold Aq.grow Ar.grow
 by_cases hd : 0 < d
 · simp only [rb_gt, rb_pt, rb_node, rb_take, r_ite, r_pure, if_pos hd]
 · simp only [rb_gt, rb_pt, rb_take, r_ite, r_pure, rb_pure, if_neg hd]
theorem rb_grow {β : Type} (n : Int) (d : Nat) (s : Sp) (k : _ → Pg β) : run ((grow A n d) >>= k) s = run (k (A.grow n d s).1) (A.grow n d s).2 := rb (r_grow A n d s) k
def add (n : Int) (d : Nat) (cell : Int) : Pg Int :=
 if n % pw (d - 1) = 0 then do
   let t ← take A
   if t.2 = 0 then do
     let _ ← pt cell t.1
     pure 0
   else pure t.2
 else pure 0
theorem r_add (n : Int) (d : Nat) (c : Int) (s : Sp) : run (add A n d c) s = A.add n d c s := by
 unfold Aq.add Ar.add
 simp only [rb_pt, rb_take, r_ite, r_pure]
theorem rb_add {β : Type} (n : Int) (d : Nat) (c : Int) (s : Sp) (k : _ → Pg β) : run ((add A n d c) >>= k) s = run (k (A.add n d c s).1) (A.add n d c s).2 := rb (r_add A n d c s) k
def down (n : Int) : Nat → Int → Pg (Int × Int)
 | 0, a => pure (0, a)
 | d + 1, a =>
   if d = 0 then pure (0, a) else do
   let r ← add A n (d + 1) (a + digA n (d + 1))
   if r = 0 then do
     let q ← node A (a + digA n (d + 1))
     if q.2 = true then down n d q.1 else pure (24, 0)
   else pure (r, 0)
theorem r_down (n : Int) : ∀ (d : Nat) (a : Int) (s : Sp), run (down A n d a) s = (((A.down n d a s).1, (A.down n d a s).2.1), (A.down n d a s).2.2)
 | 0, _, _ => rfl
 | d + 1, a, s => by
   unfold Aq.down Ar.down
   simp only [rb_add, rb_node, r_ite, r_pure, r_down n d]
   split
   · rfl
   · split
     · split <;> rfl
     · rfl
theorem rb_down {β : Type} (n : Int) (d : Nat) (a : Int) (s : Sp) (k : _ → Pg β) : run ((down A n d a) >>= k) s = run (k ((((A.down n d a s).1, (A.down n d a s).2.1), (A.down n d a s).2.2)).1) ((((A.down n d a s).1, (A.down n d a s).2.1), (A.down n d a s).2.2)).2 := rb (r_down A n d a s) k
def rest (n v : Int) (d : Nat) : Pg (Int × Int) := do
 let c ← node A A.root
 if c.2 = true then do
   let r ← down A n d c.1
   if r.1 = 0 then do
     let _ ← pt (r.2 + digA n 1) v
     let _ ← pt (A.root + 1) (n + 1)
     pure (n, 0)
   else pure (0, r.1)
 else pure (0, 24)
theorem r_rest (n v : Int) (d : Nat) (s : Sp) : run (rest A n v d) s = (((A.rest n v d s).1, (A.rest n v d s).2.1), (A.rest n v d s).2.2) := by
 unfold Aq.rest Ar.rest
 simp only [rb_pt, rb_node, rb_down, r_ite, r_pure]
 split
 · split <;> rfl
 · rfl
def pushIn (n v : Int) (d : Nat) : Pg (Int × Int) :=
 if d < dep (n + 1) then do
   let g ← grow A n d
   if g = 0 then rest A n v (dep (n + 1)) else pure (0, g)
 else rest A n v d
theorem r_pushIn (n v : Int) (d : Nat) (s : Sp) : run (pushIn A n v d) s = (((A.pushIn n v d s).1, (A.pushIn n v d s).2.1), (A.pushIn n v d s).2.2) := by
 unfold Aq.pushIn Ar.pushIn
 simp only [rb_grow, r_rest, r_ite, r_pure]
 split
 · split <;> rfl
 · rfl
theorem rb_pushIn {β : Type} (n v : Int) (d : Nat) (s : Sp) (k : _ → Pg β) : run ((pushIn A n v d) >>= k) s = run (k ((((A.pushIn n v d s).1, (A.pushIn n v d s).2.1), (A.pushIn n v d s).2.2)).1) ((((A.pushIn n v d s).1, (A.pushIn n v d s).2.1), (A.pushIn n v d s).2.2)).2 := rb (r_pushIn A n v d s) k
def push (v : Int) : Pg (Int × Int) := do
 let m ← many A
 if m.2.2 = true then
   if m.1 = 4096 then pure (0, 9) else do
     let k ← mk
     let r ← pushIn A m.1 v m.2.1.toNat
     if r.2 ≠ 0 then do
       let _ ← bk k
       pure r
     else pure r
 else pure (0, 24)
theorem r_push (v : Int) (s : Sp) : run (push A v) s = (((A.push s v).1, (A.push s v).2.1), (A.push s v).2.2) := by
 unfold Aq.push Ar.push Ar.undo
 simp only [rb_many, rb_mk, rb_bk, rb_pushIn, r_ite, r_pure]
 split
 · split
   · rfl
   · split <;> rfl
 · rfl
def gives (n : Int) (d now : Nat) : List Int → Nat → Int → Pg (Int × Int)
 | [], _, gone => pure (0, gone)
 | a :: l, i, gone =>
   if (n - 1) % pw (d - i) ≠ 0 ∧ (0 < i ∨ now = d) then gives n d now l (i + 1) gone
   else do
     let g ← A.pool.giveP a
     if g = 0 then gives n d now l (i + 1) (gone + 1) else pure (g, gone)
theorem r_gives (n : Int) (d now : Nat) : ∀ (l : List Int) (i : Nat) (gone : Int) (s : Sp), run (gives A n d now l i gone) s = (((A.gives n d now l i gone s).1, (A.gives n d now l i gone s).2.1), (A.gives n d now l i gone s).2.2)
 | [], _, _, _ => rfl
 | a :: l, i, gone, s => by
   unfold Aq.gives Ar.gives
   simp only [rb_giveP, r_ite, r_pure, r_gives n d now l]
   split
   · rfl
   · split <;> rfl
theorem rb_gives {β : Type} (n : Int) (d now : Nat) (l : List Int) (i : Nat) (gone : Int) (s : Sp) (k : _ → Pg β) : run ((gives A n d now l i gone) >>= k) s = run (k ((((A.gives n d now l i gone s).1, (A.gives n d now l i gone s).2.1), (A.gives n d now l i gone s).2.2)).1) ((((A.gives n d now l i gone s).1, (A.gives n d now l i gone s).2.1), (A.gives n d now l i gone s).2.2)).2 := rb (r_gives A n d now l i gone s) k
def fell (n : Int) (d now : Nat) (top gone : Int) : Pg Unit := do
 let _ ← (if 0 < gone then do let v ← gt (A.root + 7); pt (A.root + 7) (w64 (v - gone)) else pure ())
 let _ ← (if now < d then do let _ ← pt A.root top; pt (A.root + 2) now else pure ())
 pt (A.root + 1) (n - 1)
theorem r_fell (n : Int) (d now : Nat) (top gone : Int) (s : Sp) : run (fell A n d now top gone) s = ((), A.fell n d now top gone s) := by
 unfold Aq.fell Ar.fell
 by_cases h1 : 0 < gone <;> by_cases h2 : now < d
 · simp only [bind_assoc, rb_gt, r_pt, rb_pt, if_pos h1, if_pos h2]
 · simp only [bind_assoc, rb_gt, r_pt, rb_pt, rb_pure, if_pos h1, if_neg h2]
 · simp only [bind_assoc, r_pt, rb_pt, rb_pure, if_neg h1, if_pos h2]
 · simp only [r_pt, rb_pure, if_neg h1, if_neg h2]
theorem rb_fell {β : Type} (n : Int) (d now : Nat) (top gone : Int) (s : Sp) (k : _ → Pg β) : run ((fell A n d now top gone) >>= k) s = run (k (((), A.fell n d now top gone s)).1) (((), A.fell n d now top gone s)).2 := rb (r_fell A n d now top gone s) k
def popOn (n : Int) (d now : Nat) (l : List Int) (v top : Int) : Pg (Int × Int) := do
 let g ← gives A n d now l 0 0
 if g.1 = 0 then do
   let _ ← fell A n d now top g.2
   pure (v, 0)
 else pure (0, g.1)
theorem r_popOn (n : Int) (d now : Nat) (l : List Int) (v top : Int) (s : Sp) : run (popOn A n d now l v top) s = (((A.popOn n d now l v top s).1, (A.popOn n d now l v top s).2.1), (A.popOn n d now l v top s).2.2) := by
 unfold Aq.popOn Ar.popOn
 simp only [rb_gives, rb_fell, r_ite, r_pure]
 split <;> rfl
def popW (n : Int) (d : Nat) : Option (List Int) → Pg (Int × Int)
 | none => pure (0, 24)
 | some l => do
   let v ← gt (l.getD (d - 1) 0 + digA (n - 1) 1)
   if 0 < dep (n - 1) ∧ dep (n - 1) < d then do
     let x ← node A (l.getD 0 0)
     if x.2 = true then popOn A n d (dep (n - 1)) l v x.1 else pure (0, 24)
   else popOn A n d (dep (n - 1)) l v (if 0 < dep (n - 1) then l.getD 0 0 else 0)
def popIn (n : Int) (d : Nat) : Pg (Int × Int) := do
 let w ← way A (n - 1) d A.root []
 popW A n d w
theorem r_popIn (n : Int) (d : Nat) (s : Sp) : run (popIn A n d) s = (((A.popIn n d s).1, (A.popIn n d s).2.1), (A.popIn n d s).2.2) := by
 unfold Aq.popIn Ar.popIn
 rw [run_bind, r_way]
 generalize A.way (n - 1) d A.root s [] = w
 obtain ⟨l, t⟩ := w
 cases l with
 | none => rfl
 | some l =>
   unfold Aq.popW
   simp only [rb_gt, rb_node, r_popOn, r_ite, r_pure]
   by_cases h : 0 < dep (n - 1) ∧ dep (n - 1) < d
   · simp only [if_pos h]
     split <;> rfl
   · simp only [if_neg h]
theorem rb_popIn {β : Type} (n : Int) (d : Nat) (s : Sp) (k : _ → Pg β) : run ((popIn A n d) >>= k) s = run (k ((((A.popIn n d s).1, (A.popIn n d s).2.1), (A.popIn n d s).2.2)).1) ((((A.popIn n d s).1, (A.popIn n d s).2.1), (A.popIn n d s).2.2)).2 := rb (r_popIn A n d s) k
def pop : Pg (Int × Int) := do
 let m ← many A
 if m.1 = 0 then pure (0, 8) else
 if m.2.2 = true then do
   let k ← mk
   let r ← popIn A m.1 m.2.1.toNat
   if r.2 ≠ 0 then do
     let _ ← bk k
     pure (0, r.2)
   else pure r
 else pure (0, 24)
theorem r_pop (s : Sp) : run (pop A) s = (((A.pop s).1, (A.pop s).2.1), (A.pop s).2.2) := by
 unfold Aq.pop Ar.pop Ar.undoPop
 simp only [rb_many, rb_mk, rb_bk, rb_popIn, r_ite, r_pure]
 split
 · rfl
 · split
   · split <;> rfl
   · rfl
end Sim.Aq
