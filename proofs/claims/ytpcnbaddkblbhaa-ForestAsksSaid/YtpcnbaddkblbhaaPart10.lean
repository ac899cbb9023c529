import Derived.Test.YtpcnbaddkblbhaaPart9
import Derived.Test.YtpcnbaddkblbhaaPart4
/- Lemmas and walks for the claims of this seat (own work): Rg1 Lw0 Lw1. -/
/- The reference of the forest: Union, Undo. -/
namespace Go.Proofs.Ytpcnbaddkblbhaa
open Go.Vc Sim
set_option maxHeartbeats 8000000
section
variable {a1 : Option Addr} {c1 : Nat} {a2 : Option Addr} {c2 : Nat} {a3 : Option Addr} {c3 : Nat} {b z j : List Int}
theorem UpN_end : ∀ {b : List Int} {k : Nat} {x r : Int}, UpN b k x r → 1 ≤ r ∧ b[(r - 1).toNat]? = some 0
  | _, 0, _, _, h => by obtain ⟨rfl, h1, h2⟩ := h; exact ⟨h1, h2⟩
  | _, _ + 1, _, _, h => by obtain ⟨_, y, _, _, h⟩ := h; exact UpN_end h
theorem rfSame (w0 : World) (sh : Shared) (h : RaR w0 sh a1 c1 a2 c2 a3 c3 b z j) (k k' : Nat) (x y p : Int) (hx : UpN b k x p) (hy : UpN b k' y p) :
    FnE PP w0 sh 56 [rV a1 c1 a2 c2 a3 c3 b z j, .int .i64 x, .int .i64 y] [] (.tuple #[rV a1 c1 a2 c2 a3 c3 b z j, .bool false]) [] := by
  have f1 := rfFind w0 sh h k x p hx
  have f2 := rfFind w0 sh h k' y p hy
  refine fn_of_run en56 fn56 rfl rfl rfl ?_
  repeat (first | refine zck ?_ | refine zcl ?_ | refine zcm ?_ | refine zcn ?_)
  first | refine zcp (by kernel_rfl) ?_ | refine zcq PP_mixed (by kernel_rfl) (by kernel_rfl) ?_
  repeat' (refine zap rfl ?_; first | ((with_reducible refine zcv ?_); refine zan rfl ?_) | ((with_reducible refine zdg ?_); refine zaq (cs := [_, _, _]) rfl (fun nb => ?_)) | ((with_reducible refine zdh ?_); refine zar (fun nb => ?_)))
  all_goals refine zch ?_
  all_goals repeat (first | refine zck ?_ | refine zcl ?_ | refine zcm ?_ | refine zcn ?_)
  refine run_share [0] rfl ?_
  repeat' (first | refine zck ?_ | refine zcp (by kernel_rfl) ?_ | refine zcq PP_mixed (by kernel_rfl) (by kernel_rfl) ?_ | (refine zap rfl ?_; first | ((with_reducible refine zcu ?_); refine zan rfl ?_) | ((with_reducible refine zcv ?_); refine zan rfl ?_) | ((with_reducible refine zcw ?_); refine zaa 0 rfl rfl rfl ?_) | ((with_reducible refine zcx ?_); first | refine zah [] f1 rfl rfl rfl (fun _ h => .tail _ h) rfl ?_ | refine zah [] f2 rfl rfl rfl (fun _ h => .tail _ h) rfl ?_) | ((with_reducible refine zda ?_); refine zbc rfl rfl (by omega) ?_) | ((with_reducible refine zdd ?_); refine zae 0 rfl rfl rfl rfl rfl rfl rfl ?_)) | refine zch ?_ | refine zci rfl ?_)
  refine run_ret (leaves_nil (ends_take [] rfl (ends_two rfl (resOk_pt 0 rfl rfl rfl) rfl ⟨rfl, rfl, rfl⟩)))
theorem rfJoin (w0 : World) (sh : Shared) (h : RaR w0 sh a1 c1 a2 c2 a3 c3 b z j) (k k' : Nat) (x y p q hi lo sp sq : Int) (hx : UpN b k x p) (hy : UpN b k' y q) (hne : p ≠ q) (hsp : z[(p - 1).toNat]? = some sp) (hsq : z[(q - 1).toNat]? = some sq) (hs : 0 ≤ sp ∧ sp ≤ 1000 ∧ 0 ≤ sq ∧ sq ≤ 1000)
    (hc : ((sp < sq ∨ (sp = sq ∧ q < p)) ∧ hi = q ∧ lo = p) ∨ ((sq < sp ∨ (sp = sq ∧ p < q)) ∧ hi = p ∧ lo = q)) :
    Vc.Fn PP w0 sh 56 [rV a1 c1 a2 c2 a3 c3 b z j, .int .i64 x, .int .i64 y] []
      (fun v Γ => ∃ v', v = .tuple #[v', .bool true] ∧ rOut (b.set (lo - 1).toNat hi) (z.set (hi - 1).toNat (sp + sq)) (j ++ [lo]) v' Γ) := by
  have f1 := rfFind w0 sh h k x p hx
  have f2 := rfFind w0 sh h k' y q hy
  have hC := rfCopy w0 sh h
  obtain ⟨p1, p2⟩ := UpN_end hx
  obtain ⟨q1, q2⟩ := UpN_end hy
  have lp := (List.getElem?_eq_some_iff.1 p2).1
  have lq := (List.getElem?_eq_some_iff.1 q2).1
  have zp := (List.getElem?_eq_some_iff.1 hsp).1
  have zq := (List.getElem?_eq_some_iff.1 hsq).1
  obtain ⟨r1, r2, r3, l1, l2, l3⟩ := h
  obtain ⟨bb, off, cc, TT, fr, e2, hm, hr⟩ := r2.at hsp
  obtain ⟨bb', off', cc', TT', fr', e2', hm', hr'⟩ := r2.at hsq
  have zrp := ints_rd hsp
  have zrq := ints_rd hsq
  refine fn_of_run en56 fn56 rfl rfl rfl ?_
  subst e2
  cases e2'
  repeat (first | refine zck ?_ | refine zcl ?_ | refine zcm ?_ | refine zcn ?_)
  first | refine zcp (by kernel_rfl) ?_ | refine zcq PP_mixed (by kernel_rfl) (by kernel_rfl) ?_
  repeat' (refine zap rfl ?_; first | ((with_reducible refine zcv ?_); refine zan rfl ?_) | ((with_reducible refine zdg ?_); refine zaq (cs := [_, _, _]) rfl (fun nb => ?_)) | ((with_reducible refine zdh ?_); refine zar (fun nb => ?_)))
  all_goals refine zch ?_
  all_goals repeat (first | refine zck ?_ | refine zcl ?_ | refine zcm ?_ | refine zcn ?_)
  rename_i bx
  revert nb; intro b6
  refine run_share [0] rfl ?_
  repeat (first | refine zck ?_ | refine zcl ?_ | refine zcm ?_ | refine zcn ?_)
  first | refine zcp (by kernel_rfl) ?_ | refine zcq PP_mixed (by kernel_rfl) (by kernel_rfl) ?_
  repeat' (refine zap rfl ?_; first | ((with_reducible refine zcu ?_); refine zan rfl ?_) | ((with_reducible refine zcv ?_); refine zan rfl ?_) | ((with_reducible refine zcw ?_); refine zaa 0 rfl rfl rfl ?_) | ((with_reducible refine zcx ?_); first | refine zah [] f1 rfl rfl rfl (fun _ h => .tail _ h) rfl ?_ | refine zah [] f2 rfl rfl rfl (fun _ h => .tail _ h) rfl ?_))
  all_goals refine zch ?_
  all_goals repeat (first | refine zck ?_ | refine zcl ?_ | refine zcm ?_ | refine zcn ?_)
  repeat (first | refine zck ?_ | refine zcl ?_ | refine zcm ?_ | refine zcn ?_)
  first | refine zcp (by kernel_rfl) ?_ | refine zcq PP_mixed (by kernel_rfl) (by kernel_rfl) ?_
  repeat' (refine zap rfl ?_; first | ((with_reducible refine zcu ?_); refine zan rfl ?_) | ((with_reducible refine zda ?_); refine zbd rfl rfl (by omega) ?_))
  all_goals refine zch ?_
  all_goals repeat (first | refine zck ?_ | refine zcl ?_ | refine zcm ?_ | refine zcn ?_)
  refine zcj rfl ?_
  refine zcm ?_
  repeat refine zck ?_
  refine run_bind_eq (l' := [(3, .pointer (some ⟨bx, 0, none⟩)), (6, .pointer (some ⟨b6, 0, none⟩)), (8, .int .i64 p), (9, .int .i64 q), (53, .bool (decide (sp < sq ∨ (sp = sq ∧ q < p))))]) (Γ' := [pt b6 (.cells (List.toArray [.slice none 0 0, .slice none 0 0, .slice none 0 0]) 34 (0, 0))]) ?_ (fun junk => ?_)
  · by_cases hc1 : sp < sq
    · rw [decide_eq_true (.inl hc1)]
      repeat' (first | refine zcq PP_mixed (by kernel_rfl) (by kernel_rfl) ?_ | (refine zap rfl ?_; first | refine zad rfl (fun hF Γ w h1 h2 => hm hF Γ w (fun p hp => h1 p (.tail _ hp)) h2) (hr _ (by omega)) ?_ | refine zad rfl (fun hF Γ w h1 h2 => hm' hF Γ w (fun p hp => h1 p (.tail _ hp)) h2) (hr' _ (by omega)) ?_ | ((with_reducible refine zct ?_); first | refine zak rfl ?_ | refine zal rfl ?_) | ((with_reducible refine zcu ?_); refine zan rfl ?_) | ((with_reducible refine zcw ?_); refine zaa 0 rfl rfl rfl ?_) | ((with_reducible refine zcy ?_); refine zao rfl ?_) | ((with_reducible refine zda ?_); first | refine zbg rfl rfl (by omega) ?_ | refine zav rfl rfl (by omega) ?_) | ((with_reducible refine zdc ?_); refine zbu rfl ?_) | ((with_reducible refine zdf ?_); refine zas rfl rfl (by omega) ?_)) | refine zch ?_)
      exact cut_end ⟨rfl, ⟨rfl, rfl, rfl, rfl, rfl, trivial⟩, rfl⟩
    · by_cases hc2 : sp = sq
      · by_cases hc3 : q < p
        · rw [decide_eq_true (.inr ⟨hc2, hc3⟩)]
          repeat' (first | refine zcq PP_mixed (by kernel_rfl) (by kernel_rfl) ?_ | (refine zap rfl ?_; first | refine zad rfl (fun hF Γ w h1 h2 => hm hF Γ w (fun p hp => h1 p (.tail _ hp)) h2) (hr _ (by omega)) ?_ | refine zad rfl (fun hF Γ w h1 h2 => hm' hF Γ w (fun p hp => h1 p (.tail _ hp)) h2) (hr' _ (by omega)) ?_ | ((with_reducible refine zct ?_); refine zaj rfl ?_) | ((with_reducible refine zcu ?_); refine zan rfl ?_) | ((with_reducible refine zcw ?_); refine zaa 0 rfl rfl rfl ?_) | ((with_reducible refine zcy ?_); refine zao rfl ?_) | ((with_reducible refine zda ?_); first | refine zbc rfl rfl (by omega) ?_ | refine zbh rfl rfl (by omega) ?_ | refine zbk rfl rfl (by omega) ?_ | refine zav rfl rfl (by omega) ?_) | ((with_reducible refine zdc ?_); first | refine zbu rfl ?_ | refine zbv rfl ?_) | ((with_reducible refine zdf ?_); refine zas rfl rfl (by omega) ?_)) | refine zch ?_)
          exact cut_end ⟨rfl, ⟨rfl, rfl, rfl, rfl, rfl, trivial⟩, rfl⟩
        · rw [decide_eq_false (by omega)]
          repeat' (first | refine zcq PP_mixed (by kernel_rfl) (by kernel_rfl) ?_ | (refine zap rfl ?_; first | refine zad rfl (fun hF Γ w h1 h2 => hm hF Γ w (fun p hp => h1 p (.tail _ hp)) h2) (hr _ (by omega)) ?_ | refine zad rfl (fun hF Γ w h1 h2 => hm' hF Γ w (fun p hp => h1 p (.tail _ hp)) h2) (hr' _ (by omega)) ?_ | ((with_reducible refine zct ?_); refine zaj rfl ?_) | ((with_reducible refine zcu ?_); refine zan rfl ?_) | ((with_reducible refine zcw ?_); refine zaa 0 rfl rfl rfl ?_) | ((with_reducible refine zcy ?_); refine zao rfl ?_) | ((with_reducible refine zda ?_); first | refine zbc rfl rfl (by omega) ?_ | refine zbh rfl rfl (by omega) ?_ | refine zbl rfl rfl (by omega) ?_ | refine zav rfl rfl (by omega) ?_) | ((with_reducible refine zdc ?_); first | refine zbu rfl ?_ | refine zbv rfl ?_) | ((with_reducible refine zdf ?_); refine zas rfl rfl (by omega) ?_)) | refine zch ?_)
          exact cut_end ⟨rfl, ⟨rfl, rfl, rfl, rfl, rfl, trivial⟩, rfl⟩
      · rw [decide_eq_false (by omega)]
        repeat' (first | refine zcq PP_mixed (by kernel_rfl) (by kernel_rfl) ?_ | (refine zap rfl ?_; first | refine zad rfl (fun hF Γ w h1 h2 => hm hF Γ w (fun p hp => h1 p (.tail _ hp)) h2) (hr _ (by omega)) ?_ | refine zad rfl (fun hF Γ w h1 h2 => hm' hF Γ w (fun p hp => h1 p (.tail _ hp)) h2) (hr' _ (by omega)) ?_ | ((with_reducible refine zct ?_); first | refine zaj rfl ?_ | refine zak rfl ?_) | ((with_reducible refine zcu ?_); refine zan rfl ?_) | ((with_reducible refine zcw ?_); refine zaa 0 rfl rfl rfl ?_) | ((with_reducible refine zcy ?_); refine zao rfl ?_) | ((with_reducible refine zda ?_); first | refine zbd rfl rfl (by omega) ?_ | refine zbh rfl rfl (by omega) ?_ | refine zav rfl rfl (by omega) ?_) | ((with_reducible refine zdc ?_); refine zbv rfl ?_) | ((with_reducible refine zdf ?_); refine zas rfl rfl (by omega) ?_)) | refine zch ?_)
        exact cut_end ⟨rfl, ⟨rfl, rfl, rfl, rfl, rfl, trivial⟩, rfl⟩
  refine run_bind_eq (l' := [(3, .pointer (some ⟨bx, 0, none⟩)), (6, .pointer (some ⟨b6, 0, none⟩)), (8, .int .i64 hi), (9, .int .i64 lo)]) (Γ' := [pt b6 (.cells (List.toArray [.slice none 0 0, .slice none 0 0, .slice none 0 0]) 34 (0, 0))]) ?_ (fun junk => ?_)
  · refine run_cond rfl (fun hE => ?_) (fun hE => ?_)
    · repeat' (first | refine zcp (by kernel_rfl) ?_ | (refine zap rfl ?_; first | ((with_reducible refine zcu ?_); refine zan rfl ?_) | ((with_reducible refine zcv ?_); refine zan rfl ?_)) | refine zch ?_)
      rcases hc with ⟨hc, rfl, rfl⟩ | ⟨hc, rfl, rfl⟩
      · exact cut_end ⟨rfl, ⟨rfl, rfl, rfl, rfl, trivial⟩, rfl⟩
      · omega
    · repeat' (first | refine zcm ?_ | (refine zap rfl ?_; first | ((with_reducible refine zct ?_); first | refine zaj rfl ?_ | refine zak rfl ?_ | refine zal rfl ?_ | refine zam rfl rfl (fun _ => ?_) (fun _ => ?_))) | refine zch ?_)
      rcases hc with ⟨hc, rfl, rfl⟩ | ⟨hc, rfl, rfl⟩
      · omega
      · exact cut_end ⟨rfl, ⟨rfl, rfl, rfl, rfl, trivial⟩, rfl⟩
  have hlo : (lo = p ∨ lo = q) ∧ (hi = p ∨ hi = q) := by omega
  have lhi : (hi - 1).toNat < z.length ∧ (lo - 1).toNat < z.length ∧ (lo - 1).toNat < b.length ∧ 1 ≤ hi ∧ 1 ≤ lo := by
    rcases hlo with ⟨rfl | rfl, rfl | rfl⟩ <;> exact ⟨by assumption, by assumption, by assumption, by omega, by omega⟩
  obtain ⟨g1, g2, g3, g4, g5⟩ := lhi
  obtain ⟨zh, hzh⟩ : ∃ u, z[(hi - 1).toNat]? = some u := ⟨_, List.getElem?_eq_getElem g1⟩
  obtain ⟨zl, hzl⟩ : ∃ u, z[(lo - 1).toNat]? = some u := ⟨_, List.getElem?_eq_getElem g2⟩
  have hsum : zh + zl = sp + sq ∧ 0 ≤ zh ∧ zh ≤ 1000 ∧ 0 ≤ zl ∧ zl ≤ 1000 := by
    rcases hc with ⟨hc, rfl, rfl⟩ | ⟨hc, rfl, rfl⟩
    · rw [hsq] at hzh; rw [hsp] at hzl; cases hzh; cases hzl; omega
    · rw [hsp] at hzh; rw [hsq] at hzl; cases hzh; cases hzl; omega
  have zrh := ints_rd hzh
  have zrl := ints_rd hzl
  have w1 : ∀ o, o = (lo - 1).toNat → wr [Value.int .i64 hi] o (intsV b) = some (intsV (b.set (lo - 1).toNat hi)) := fun o ho => by rw [ho]; exact wr_int1 b _ _ g3
  have w2 : ∀ o, o = (hi - 1).toNat → wr [Value.int .i64 (zh + zl)] o (intsV z) = some (intsV (z.set (hi - 1).toNat (sp + sq))) := fun o ho => by rw [ho, ← hsum.1]; exact wr_int1 z _ _ g1
  repeat (first | refine zck ?_ | refine zcl ?_ | refine zcm ?_ | refine zcn ?_)
  first | refine zcp (by kernel_rfl) ?_ | refine zcq PP_mixed (by kernel_rfl) (by kernel_rfl) ?_
  repeat' (refine zap rfl ?_; first | (refine zai [] hC rfl rfl rfl (fun _ h => .tail _ h) ?_; rintro v Γ' ⟨b1, d1, b2, d2, b3, d3, rfl, rfl⟩) | ((with_reducible refine zcw ?_); refine zaa 0 rfl rfl rfl ?_) | ((with_reducible refine zdd ?_); refine zae 4 rfl rfl rfl rfl rfl rfl rfl ?_) | ((with_reducible refine zdh ?_); refine zar (fun nb => ?_)))
  all_goals refine zch ?_
  all_goals repeat (first | refine zck ?_ | refine zcl ?_ | refine zcm ?_ | refine zcn ?_)
  refine run_sl_cases 0 rfl (fun _ h _ _ => absurd h (by omega)) ?_
  intro bb1 k1 k2 k3
  subst k1
  refine run_sl_cases 1 rfl (fun _ h _ _ => absurd h (by omega)) ?_
  intro bb2 k1 k2 k3
  subst k1
  repeat (first | refine zck ?_ | refine zcl ?_ | refine zcm ?_ | refine zcn ?_)
  first | refine zcp (by kernel_rfl) ?_ | refine zcq PP_mixed (by kernel_rfl) (by kernel_rfl) ?_
  repeat' (refine zap rfl ?_; first | refine zaf 0 rfl rfl rfl rfl rfl (w1 _ (by omega)) rfl ?_ | ((with_reducible refine zcu ?_); refine zan rfl ?_) | ((with_reducible refine zcw ?_); refine zab 4 rfl rfl rfl ?_) | ((with_reducible refine zcy ?_); refine zao rfl ?_) | ((with_reducible refine zda ?_); refine zav rfl rfl (by omega) ?_) | ((with_reducible refine zdf ?_); refine zas rfl rfl (by omega) ?_))
  all_goals refine zch ?_
  all_goals repeat (first | refine zck ?_ | refine zcl ?_ | refine zcm ?_ | refine zcn ?_)
  refine run_drawR PP_mixed (by kernel_rfl) (by kernel_rfl) ?_
  repeat' (refine zap rfl ?_; first | refine zag 1 rfl rfl (zrh _ (by omega)) (by intro h; cases h) ?_ | refine zag 1 rfl rfl (zrl _ (by omega)) (by intro h; cases h) ?_ | refine zaf 1 rfl rfl rfl rfl rfl (w2 _ (by omega)) rfl ?_ | ((with_reducible refine zcu ?_); refine zan rfl ?_) | ((with_reducible refine zcw ?_); refine zab 4 rfl rfl rfl ?_) | ((with_reducible refine zcy ?_); refine zao rfl ?_) | ((with_reducible refine zda ?_); first | refine zau rfl rfl (by omega) ?_ | refine zav rfl rfl (by omega) ?_) | ((with_reducible refine zdf ?_); refine zas rfl rfl (by omega) ?_))
  refine zch ?_
  repeat (first | refine zck ?_ | refine zcl ?_ | refine zcm ?_ | refine zcn ?_ | refine zco ?_)
  repeat (first | refine zck ?_ | refine zcl ?_ | refine zcm ?_ | refine zcn ?_)
  first | refine zcp (by kernel_rfl) ?_ | refine zcq PP_mixed (by kernel_rfl) (by kernel_rfl) ?_
  repeat' (refine zap rfl ?_; first | refine reg_buildSlice rfl rfl rfl rfl rfl rfl (fun nb => ?_) | refine reg_append 2 5 rfl rfl rfl rfl rfl rfl rfl rfl (by omega) (fun _ _ => rfl) (fun a3' c3' => ?_) | ((with_reducible refine zcu ?_); refine zan rfl ?_) | ((with_reducible refine zcw ?_); refine zab 4 rfl rfl rfl ?_) | ((with_reducible refine zcy ?_); refine zao rfl ?_) | ((with_reducible refine zdd ?_); refine zae 4 rfl rfl rfl rfl rfl rfl rfl ?_))
  all_goals refine zch ?_
  all_goals repeat (first | refine zck ?_ | refine zcl ?_ | refine zcm ?_ | refine zcn ?_)
  repeat (first | refine zck ?_ | refine zcl ?_ | refine zcm ?_ | refine zcn ?_)
  first | refine zcp (by kernel_rfl) ?_ | refine zcq PP_mixed (by kernel_rfl) (by kernel_rfl) ?_
  repeat' (refine zap rfl ?_; first | ((with_reducible refine zcv ?_); refine zan rfl ?_) | ((with_reducible refine zcw ?_); refine zab 4 rfl rfl rfl ?_) | ((with_reducible refine zdd ?_); refine zae 3 rfl rfl rfl rfl rfl rfl rfl ?_))
  all_goals refine zch ?_
  all_goals repeat (first | refine zck ?_ | refine zcl ?_ | refine zcm ?_ | refine zcn ?_)
  refine run_ret (leaves_nil (ends_take [0, 0, 0] rfl (ends_two rfl (resOk_pt 3 rfl rfl rfl) rfl ⟨rfl, _, rfl, some ⟨bb1, 0, none⟩, d1, some ⟨bb2, 0, none⟩, d2, a3', c3', ?_, ?_⟩)))
  · exact (show _ = Value.agg (List.toArray [.slice (some ⟨bb1, 0, none⟩) b.length d1, .slice (some ⟨bb2, 0, none⟩) z.length d2, .slice a3' (j.length + 1) c3']) from rfl).trans (by simp only [rV, List.length_append, List.length_cons, List.length_nil, List.length_set])
  · exact (show _ = [SlA 3 1 (some ⟨bb1, 0, none⟩) b.length d1 (intsV (b.set (lo - 1).toNat hi)), SlA 3 1 (some ⟨bb2, 0, none⟩) z.length d2 (intsV (z.set (hi - 1).toNat (sp + sq))), SlA 3 1 a3' (j.length + 1) c3' (intsV j ++ [.int .i64 lo])] from rfl).trans (by simp [rP, intsV])
theorem rfUndo0 (w0 : World) (sh : Shared) (h : RaR w0 sh a1 c1 a2 c2 a3 c3 b z j) (hj : j = []) :
    FnE PP w0 sh 57 [rV a1 c1 a2 c2 a3 c3 b z j] [] (.tuple #[rV a1 c1 a2 c2 a3 c3 b z j, .bool false]) [] := by
  have hl : (j.length : Int) = 0 := by rw [hj]; rfl
  refine fn_of_run en57 fn57 rfl rfl rfl ?_
  repeat (first | refine zck ?_ | refine zcl ?_ | refine zcm ?_ | refine zcn ?_)
  first | refine zcp (by kernel_rfl) ?_ | refine zcq PP_mixed (by kernel_rfl) (by kernel_rfl) ?_
  repeat' (refine zap rfl ?_; first | ((with_reducible refine zcv ?_); refine zan rfl ?_) | ((with_reducible refine zdg ?_); refine zaq (cs := [_, _, _]) rfl (fun nb => ?_)) | ((with_reducible refine zdh ?_); refine zar (fun nb => ?_)))
  all_goals refine zch ?_
  all_goals repeat (first | refine zck ?_ | refine zcl ?_ | refine zcm ?_ | refine zcn ?_)
  refine run_share [0] rfl ?_
  repeat' (first | refine zck ?_ | refine zcp (by kernel_rfl) ?_ | (refine zap rfl ?_; first | ((with_reducible refine zcv ?_); refine zan rfl ?_) | ((with_reducible refine zcw ?_); refine zaa 0 rfl rfl rfl ?_) | ((with_reducible refine zcx ?_); refine zce rfl ?_) | ((with_reducible refine zcy ?_); refine zao rfl ?_) | ((with_reducible refine zda ?_); refine zbc rfl rfl (by omega) ?_) | ((with_reducible refine zdd ?_); refine zae 0 rfl rfl rfl rfl rfl rfl rfl ?_)) | refine zch ?_ | refine zci rfl ?_)
  refine run_ret (leaves_nil (ends_take [] rfl (ends_two rfl (resOk_pt 0 rfl rfl rfl) rfl ⟨rfl, rfl, rfl⟩)))
theorem rfUndo (w0 : World) (sh : Shared) (h : RaR w0 sh a1 c1 a2 c2 a3 c3 b z j) (lo hi sh' sl : Int) (jl : Nat) (hjl : j.length = jl + 1) (hlo : j[jl]? = some lo) (h1 : 1 ≤ lo ∧ 1 ≤ hi) (hb : b[(lo - 1).toNat]? = some hi) (hh : z[(hi - 1).toNat]? = some sh') (hl : z[(lo - 1).toNat]? = some sl)
    (hs : 0 ≤ sh' ∧ sh' ≤ 1000 ∧ 0 ≤ sl ∧ sl ≤ 1000) :
    Vc.Fn PP w0 sh 57 [rV a1 c1 a2 c2 a3 c3 b z j] []
      (fun v Γ => ∃ v', v = .tuple #[v', .bool true] ∧ rOut (b.set (lo - 1).toNat 0) (z.set (hi - 1).toNat (sh' - sl)) (j.take jl) v' Γ) := by
  have hC := rfCopy w0 sh h
  obtain ⟨r1, r2, r3, l1, l2, l3⟩ := h
  have lb := (List.getElem?_eq_some_iff.1 hb).1
  have zh := (List.getElem?_eq_some_iff.1 hh).1
  have zl := (List.getElem?_eq_some_iff.1 hl).1
  have hjr := ints_rd hlo
  have hbr := ints_rd hb
  have hhr := ints_rd hh
  have hlr := ints_rd hl
  have w1 : ∀ o, o = (lo - 1).toNat → wr [Value.int .i64 0] o (intsV b) = some (intsV (b.set (lo - 1).toNat 0)) := fun o ho => by rw [ho]; exact wr_int1 b _ _ lb
  have w2 : ∀ o, o = (hi - 1).toNat → wr [Value.int .i64 (sh' - sl)] o (intsV z) = some (intsV (z.set (hi - 1).toNat (sh' - sl))) := fun o ho => by rw [ho]; exact wr_int1 z _ _ zh
  refine fn_of_run en57 fn57 rfl rfl rfl ?_
  repeat (first | refine zck ?_ | refine zcl ?_ | refine zcm ?_ | refine zcn ?_)
  first | refine zcp (by kernel_rfl) ?_ | refine zcq PP_mixed (by kernel_rfl) (by kernel_rfl) ?_
  repeat' (refine zap rfl ?_; first | ((with_reducible refine zcv ?_); refine zan rfl ?_) | ((with_reducible refine zdg ?_); refine zaq (cs := [_, _, _]) rfl (fun nb => ?_)) | ((with_reducible refine zdh ?_); refine zar (fun nb => ?_)))
  all_goals refine zch ?_
  all_goals repeat (first | refine zck ?_ | refine zcl ?_ | refine zcm ?_ | refine zcn ?_)
  rename_i bx
  revert nb; intro b2'
  refine run_share [0] rfl ?_
  repeat (first | refine zck ?_ | refine zcl ?_ | refine zcm ?_ | refine zcn ?_)
  first | refine zcp (by kernel_rfl) ?_ | refine zcq PP_mixed (by kernel_rfl) (by kernel_rfl) ?_
  repeat' (refine zap rfl ?_; first | ((with_reducible refine zcw ?_); refine zaa 0 rfl rfl rfl ?_) | ((with_reducible refine zcx ?_); refine zce rfl ?_) | ((with_reducible refine zcy ?_); refine zao rfl ?_) | ((with_reducible refine zda ?_); refine zbd rfl rfl (by omega) ?_))
  all_goals refine zch ?_
  all_goals repeat (first | refine zck ?_ | refine zcl ?_ | refine zcm ?_ | refine zcn ?_)
  refine zcj rfl ?_
  repeat (first | refine zck ?_ | refine zcl ?_ | refine zcm ?_ | refine zcn ?_)
  first | refine zcp (by kernel_rfl) ?_ | refine zcq PP_mixed (by kernel_rfl) (by kernel_rfl) ?_
  repeat' (refine zap rfl ?_; first | (refine zai [] hC rfl rfl rfl (fun _ h => .tail _ h) ?_; rintro v Γ' ⟨b1, d1, b2, d2, b3, d3, rfl, rfl⟩) | ((with_reducible refine zcw ?_); refine zaa 0 rfl rfl rfl ?_) | ((with_reducible refine zdd ?_); refine zae 4 rfl rfl rfl rfl rfl rfl rfl ?_) | ((with_reducible refine zdh ?_); refine zar (fun nb => ?_)))
  all_goals refine zch ?_
  all_goals repeat (first | refine zck ?_ | refine zcl ?_ | refine zcm ?_ | refine zcn ?_)
  refine run_sl_cases 0 rfl (fun _ h _ _ => absurd h (by omega)) ?_
  intro bb1 k1 k2 k3
  subst k1
  refine run_sl_cases 1 rfl (fun _ h _ _ => absurd h (by omega)) ?_
  intro bb2 k1 k2 k3
  subst k1
  refine run_sl_cases 2 rfl (fun _ h _ _ => absurd h (by omega)) ?_
  intro bb3 k1 k2 k3
  subst k1
  repeat (first | refine zck ?_ | refine zcl ?_ | refine zcm ?_ | refine zcn ?_)
  first | refine zcp (by kernel_rfl) ?_ | refine zcq PP_mixed (by kernel_rfl) (by kernel_rfl) ?_
  repeat' (refine zap rfl ?_; first | refine zag 2 rfl rfl (hjr _ (by omega)) (by intro h; cases h) ?_ | ((with_reducible refine zcv ?_); refine zan rfl ?_) | ((with_reducible refine zcw ?_); refine zab 4 rfl rfl rfl ?_) | ((with_reducible refine zcx ?_); refine zce rfl ?_) | ((with_reducible refine zcy ?_); refine zao rfl ?_) | ((with_reducible refine zda ?_); refine zav rfl rfl (by omega) ?_) | ((with_reducible refine zdf ?_); refine zas rfl rfl (by omega) ?_))
  all_goals refine zch ?_
  all_goals repeat (first | refine zck ?_ | refine zcl ?_ | refine zcm ?_ | refine zcn ?_)
  repeat (first | refine zck ?_ | refine zcl ?_ | refine zcm ?_ | refine zcn ?_)
  first | refine zcp (by kernel_rfl) ?_ | refine zcq PP_mixed (by kernel_rfl) (by kernel_rfl) ?_
  repeat' (refine zap rfl ?_; first | refine zag 0 rfl rfl (hbr _ (by omega)) (by intro h; cases h) ?_ | ((with_reducible refine zcu ?_); refine zan rfl ?_) | ((with_reducible refine zcv ?_); refine zan rfl ?_) | ((with_reducible refine zcw ?_); refine zab 4 rfl rfl rfl ?_) | ((with_reducible refine zcy ?_); refine zao rfl ?_) | ((with_reducible refine zda ?_); refine zav rfl rfl (by omega) ?_) | ((with_reducible refine zdf ?_); refine zas rfl rfl (by omega) ?_))
  all_goals refine zch ?_
  all_goals repeat (first | refine zck ?_ | refine zcl ?_ | refine zcm ?_ | refine zcn ?_)
  repeat (first | refine zck ?_ | refine zcl ?_ | refine zcm ?_ | refine zcn ?_)
  first | refine zcp (by kernel_rfl) ?_ | refine run_drawR PP_mixed (by kernel_rfl) (by kernel_rfl) ?_
  repeat' (refine zap rfl ?_; first | refine zag 1 rfl rfl (hhr _ (by omega)) (by intro h; cases h) ?_ | refine zag 1 rfl rfl (hlr _ (by omega)) (by intro h; cases h) ?_ | refine zaf 1 rfl rfl rfl rfl rfl (w2 _ (by omega)) rfl ?_ | ((with_reducible refine zcu ?_); refine zan rfl ?_) | ((with_reducible refine zcw ?_); refine zab 4 rfl rfl rfl ?_) | ((with_reducible refine zcy ?_); refine zao rfl ?_) | ((with_reducible refine zda ?_); refine zav rfl rfl (by omega) ?_) | ((with_reducible refine zdf ?_); refine zas rfl rfl (by omega) ?_))
  all_goals refine zch ?_
  all_goals repeat (first | refine zck ?_ | refine zcl ?_ | refine zcm ?_ | refine zcn ?_)
  repeat (first | refine zck ?_ | refine zcl ?_ | refine zcm ?_ | refine zcn ?_)
  first | refine zcp (by kernel_rfl) ?_ | refine zcq PP_mixed (by kernel_rfl) (by kernel_rfl) ?_
  repeat' (refine zap rfl ?_; first | refine zaf 0 rfl rfl rfl rfl rfl (w1 _ (by omega)) rfl ?_ | ((with_reducible refine zcu ?_); refine zan rfl ?_) | ((with_reducible refine zcw ?_); refine zab 4 rfl rfl rfl ?_) | ((with_reducible refine zcy ?_); refine zao rfl ?_) | ((with_reducible refine zda ?_); refine zav rfl rfl (by omega) ?_) | ((with_reducible refine zdf ?_); refine zas rfl rfl (by omega) ?_))
  all_goals refine zch ?_
  all_goals repeat (first | refine zck ?_ | refine zcl ?_ | refine zcm ?_ | refine zcn ?_)
  repeat (first | refine zck ?_ | refine zcl ?_ | refine zcm ?_ | refine zcn ?_)
  first | refine zcp (by kernel_rfl) ?_ | refine zcq PP_mixed (by kernel_rfl) (by kernel_rfl) ?_
  repeat' (refine zap rfl ?_; first | refine reg_slice2 rfl rfl ⟨by omega, by omega⟩ ?_ | ((with_reducible refine zcw ?_); refine zab 4 rfl rfl rfl ?_) | ((with_reducible refine zcx ?_); refine zce rfl ?_) | ((with_reducible refine zcy ?_); refine zao rfl ?_) | ((with_reducible refine zda ?_); refine zav rfl rfl (by omega) ?_) | ((with_reducible refine zdd ?_); refine zae 4 rfl rfl rfl rfl rfl rfl rfl ?_))
  all_goals refine zch ?_
  all_goals repeat (first | refine zck ?_ | refine zcl ?_ | refine zcm ?_ | refine zcn ?_)
  repeat (first | refine zck ?_ | refine zcl ?_ | refine zcm ?_ | refine zcn ?_)
  first | refine zcp (by kernel_rfl) ?_ | refine zcq PP_mixed (by kernel_rfl) (by kernel_rfl) ?_
  repeat' (refine zap rfl ?_; first | ((with_reducible refine zcv ?_); refine zan rfl ?_) | ((with_reducible refine zcw ?_); refine zab 4 rfl rfl rfl ?_) | ((with_reducible refine zdd ?_); refine zae 3 rfl rfl rfl rfl rfl rfl rfl ?_))
  all_goals refine zch ?_
  all_goals repeat (first | refine zck ?_ | refine zcl ?_ | refine zcm ?_ | refine zcn ?_)
  refine run_exch 2 (SlA 3 1 (some ⟨bb3, 0, none⟩) jl d3 (intsV (j.take jl))) rfl (fun g hg => ?_) rfl ?_
  · have h2 := SlA_cutc hg (q := jl) (by omega)
    rw [Nat.mul_one, intsV, ← List.map_take] at h2
    exact h2
  refine run_ret (leaves_nil (ends_take [0, 0, 0] rfl (ends_two rfl (resOk_pt 3 rfl rfl rfl) rfl ⟨rfl, _, rfl, some ⟨bb1, 0, none⟩, d1, some ⟨bb2, 0, none⟩, d2, some ⟨bb3, 0, none⟩, d3, ?_, ?_⟩)))
  · have e1 : (((j.length : Int) - 1)).toNat = jl := by omega
    exact (show _ = Value.agg (List.toArray [.slice (some ⟨bb1, 0, none⟩) b.length d1, .slice (some ⟨bb2, 0, none⟩) z.length d2, .slice (some ⟨bb3, 0, none⟩) (((j.length : Int) - 1)).toNat d3]) from rfl).trans (by rw [e1]; simp only [rV, List.length_set, List.length_take, hjl]; rw [Nat.min_eq_left (by omega)])
  · simp only [rP, List.length_set, List.length_take, hjl]; rw [Nat.min_eq_left (by omega)]
end
end Go.Proofs.Ytpcnbaddkblbhaa

/- Worlds as memory: transactions by their effect. -/
namespace Sim
open Go Go.Vc
/-- A world of N words that reads as `m`. -/
structure WM (N T : Int) (kn : List (Int × Wd)) (m : Int → Int) : Prop where
  ok : WOk T kn
  dom : ∀ a, lookW kn a ≠ none ↔ (0 ≤ a ∧ a < N)
  val : ∀ a, 0 ≤ a → a < N → valW kn a = m a
/-- Where a transaction stands. -/
structure Cu (N : Int) (s0 s : Sp) (m : Int → Int) (j : Nat) : Prop where
  vw : Vw s0 N s m
  wf : Wf s
  few : s.puts.length ≤ j
theorem Cu.start {N T : Int} {kn : List (Int × Wd)} {m : Int → Int} (h : WM N T kn m) {s : Sp} (h1 : s.puts = []) (h2 : s.rd = []) (h3 : s.ended = false) (h4 : ∀ a, lookW s.kn a = lookW kn a) : Cu N s s m 0 := by
  refine ⟨⟨h3, rfl, fun a a1 a2 => ?_, ⟨[], by simp⟩, fun a a1 a2 => ?_⟩, ⟨by rw [h2]; exact List.nodup_nil, (by rw [h2]; intro x hx; cases hx), (by rw [h1]; intro p hp; cases hp)⟩, by rw [h1]; exact Nat.le_refl _⟩
  · cases hl : lookW s.kn a with
    | some w => exact ⟨w, rfl⟩
    | none => rw [h4] at hl; exact absurd hl ((h.dom a).2 ⟨a1, a2⟩)
  · rw [← h.val a a1 a2]
    unfold Sp.value valW
    rw [h1, h4]
    rfl
theorem Cu.run {N : Int} {s0 s : Sp} {m : Int → Int} {j i : Nat} {α : Type} {g : Pg α} {Q : α → (Int → Int) → Prop} (h : Cu N s0 s m j) (hb : Pg.Bd i g) (hj : j + i ≤ 50000) (hq : Pg.Ok N g m Q) :
    Pg.Fits g s ∧ ∃ m', Cu N s0 (Pg.run g s).2 m' (j + i) ∧ Q (Pg.run g s).1 m' := by
  have hf := h.few
  refine ⟨Pg.fits_of g i s hb (by omega), ?_⟩
  obtain ⟨m', h1, h2⟩ := hq s0 s h.vw
  exact ⟨m', ⟨h1, (Pg.wf g h.wf).1, by have := Pg.run_len g i s hb; omega⟩, h2⟩
theorem WM.next {N T : Int} {kn kn2 : List (Int × Wd)} {m m' : Int → Int} (h : WM N T kn m) (h2 : WOk (T + 1) kn2) {s0 s : Sp} {j : Nat} (hc : Cu N s0 s m' j) (hk : ∀ a, lookW s0.kn a = lookW kn a) (hn : ∀ a, lookW kn2 a = nextW kn s a) : WM N (T + 1) kn2 m' := by
  refine ⟨h2, fun a => ?_, fun a a1 a2 => ?_⟩
  · rw [hn, nextW, ← h.dom a]
    cases lookW kn a <;> simp
  · have hv := hc.vw.val a a1 a2
    cases hl : lookW kn a with
    | none => exact absurd hl ((h.dom a).2 ⟨a1, a2⟩)
    | some w =>
      unfold valW
      rw [hn, nextW, hl]
      simp only [Option.map_some]
      split
      · exact hv
      · rename_i hw
        have hw : (s.value a).2 = false := by simpa using hw
        have := value_not hw
        rw [hc.vw.kn, hk, hl] at this
        rw [← hv, this]
theorem knLen {ka kb : List (Int × Wd)} (ha : (ka.map (·.1)).Nodup) (hb : (kb.map (·.1)).Nodup) (h : ∀ a, lookW ka a ≠ none ↔ lookW kb a ≠ none) : ka.length = kb.length := by
  have hp : (ka.map (·.1)).Perm (kb.map (·.1)) := by
    rw [List.perm_ext_iff_of_nodup ha hb]
    intro a
    have h1 := look_none ka a
    have h2 := look_none kb a
    have h3 := h a
    constructor
    · intro hm
      refine Classical.byContradiction fun hn => ?_
      exact (h3.1 (fun e => (h1.1 e) hm)) (h2.2 hn)
    · intro hm
      refine Classical.byContradiction fun hn => ?_
      exact (h3.2 (fun e => (h2.1 e) hm)) (h1.2 hn)
  have := hp.length_eq
  simpa using this
/-- Two worlds that read alike. -/
theorem alike_same {N T T' : Int} {ka kb : List (Int × Wd)} {m : Int → Int} (ha : WM N T ka m) (hb : WM N T' kb m) : alikeB ka kb = true := by
  unfold alikeB
  rw [decide_eq_true (knLen ha.ok.nd hb.ok.nd fun a => (ha.dom a).trans (hb.dom a).symm), Bool.true_and, List.all_eq_true]
  intro p hp
  obtain ⟨q, hq⟩ := List.mem_iff_getElem?.1 hp
  have hl := keys_look ka ha.ok.nd q p.1 p.2 hq
  obtain ⟨g1, g2⟩ := (ha.dom p.1).1 (by rw [hl]; exact fun e => by cases e)
  rw [decide_eq_true_eq, hb.val p.1 g1 g2, ← ha.val p.1 g1 g2]
  unfold valW; rw [hl]
theorem fresh_WM (N : Nat) (hN : N ≤ 4096) : WM N 0 (wk 0 (List.replicate N 0)) (fun _ => 0) := by
  have hl : ∀ a, lookW (wk 0 (List.replicate N 0)) a = if 0 ≤ a ∧ a < (N : Int) then some ⟨0, 0, 0⟩ else none := by
    intro a
    rw [lookW_wk]
    simp only [List.length_replicate, Int.natCast_zero, Int.zero_add, Int.sub_zero]
    by_cases h : 0 ≤ a ∧ a < (N : Int)
    · rw [if_pos h, if_pos h, List.getElem?_replicate, if_pos (by omega)]; rfl
    · rw [if_neg h, if_neg h]
  refine ⟨⟨?_, fun a w hw => ?_⟩, fun a => ?_, fun a a1 a2 => ?_⟩
  · have : ∀ (i : Nat) (l : List Int), ((wk i l).map (·.1)) = (List.range' i l.length).map (fun (q : Nat) => (q : Int)) := by
      intro i l
      induction l generalizing i with
      | nil => rfl
      | cons v r ih => simp only [wk, List.map_cons, List.length_cons, List.range'_succ, ih (i + 1)]
    rw [this]
    rw [List.nodup_iff_pairwise_ne, List.pairwise_map]
    exact (List.nodup_iff_pairwise_ne.1 (List.nodup_range' (s := 0) (step := 1))).imp (fun h e => h (by omega))
  · rw [hl] at hw
    split at hw
    · cases hw; dsimp only; omega
    · cases hw
  · rw [hl]; split
    · rename_i h; simp [h]
    · rename_i h; simp; omega
  · unfold valW; rw [hl, if_pos ⟨a1, a2⟩]
end Sim
namespace Go.Proofs.Ytpcnbaddkblbhaa
open Go.Vc Sim
section
variable {w0 : World} {n : Nat} {sh shf : Shared} {Q : Exit → Env → List Deferred → List Asn → Prop} {k : List Item} {ρ : Env} {df : List Deferred} {Γ Γr : List Asn}
variable {ops : Array Oper} {l : List (Fl × Nat × Oper)} {i : Nat} {ty : TypeId} {pos : String} {aft : Array Edge} {dst : Option Tmp}
variable {f : FuncId} {args : List Value} {fo : Operand} {cargs : Array Operand} {ats : Array TypeId} {first cap : Array Value}
/-- A call within a transaction. -/
theorem reg_callO (is : List Nat) {α : Type} {N : Int} {g : Pg α} {s0 s : Sp} {m : Int → Int} {j q p : Nat} {enc : α → Value} {R : α → (Int → Int) → Prop} (hC : Cu N s0 s m j) (hB : Pg.Bd q g) (hO : Pg.Ok N g m R) (hj : j + q ≤ 50000) (spec : FnG w0 shf f args p g enc)
    (hfo : ev ρ fo = .func (.func f) first cap) (hargs : first.toList ++ cargs.toList.map (ev ρ) ++ cap.toList = args)
    (hp : pick is Γ = some ([SpaceA p s], Γr)) (hsh : ∀ p ∈ shf, p ∈ sh) (h : ∀ x s' m', R x m' → Cu N s0 s' m' (j + q) → Reg PP w0 n sh Q ops l k (ρ.setO dst (enc x)) df (SpaceA p s' :: Γr)) :
    Reg PP w0 n sh Q ops ((Fl.loud, i, ⟨dst, .call ⟨.value fo, cargs, ats⟩, ty, pos, aft, none⟩) :: l) k ρ df Γ := by
  obtain ⟨h1, m', h2, h3⟩ := hC.run hB hj hO
  exact zah is (spec s h1) hfo hargs hp hsh rfl (h _ _ m' h3 h2)
end
/-- A transaction by its effect. -/
theorem done_mem {σ : Type} (w0 : World) (shc : Shared) (wb : Nat) (kn : List (Int × Wd)) (N T : Int) (m : Int → Int) (hT : T ≤ 1000000) (hw : WM N T kn m) (f : FuncId) (cap : Array Value) (A : Asn) (A' : σ → Asn) (M : σ → Int → Int)
    (hdo : ∀ p s, Cu N s s m 0 → (∀ a, lookW s.kn a = lookW kn a) → Vc.Fn PP w0 shc f (spP p :: cap.toList) [SpaceA p s, A] (fun v Γ => ∃ st s' j, v = .tuple #[] ∧ Γ = [SpaceA p s', A' st] ∧ j ≤ 50000 ∧ Cu N s s' (M st) j)) :
    Vc.Fn PP w0 ((wb, mapI (knM kn)) :: shc) 13 [.map (some wb), .func (.func f) #[] cap] [A]
      (fun v Γ => ∃ st nb a len c kn2, v = .tuple #[.map (some nb), .slice a len c, .bool true] ∧ Γ = [pt nb (mapI (knM kn2)), A' st] ∧ WM N (T + 1) kn2 (M st)) := by
  refine (done_spec w0 shc wb kn T hT hw.ok f cap A A' (fun st s' => ∃ s0 j, Cu N s0 s' (M st) j ∧ ∀ a, lookW s0.kn a = lookW kn a) fun p s h1 h2 h3 h4 => ?_).mono ?_
  · refine (hdo p s (Cu.start hw h1 h2 h3 h4) h4).mono ?_
    rintro v Γ ⟨st, s', j, hv, hΓ, hj, hc⟩
    exact ⟨st, s', hv, hΓ, ⟨hc.vw.live, hc.wf, hc.vw.kn, by have := hc.few; omega⟩, s, j, hc, h4⟩
  · rintro v Γ ⟨st, s', nb, a, len, c, kn2, hv, hΓ, ⟨s0, j, hc, hk⟩, h5, h6⟩
    exact ⟨st, nb, a, len, c, kn2, hv, hΓ, hw.next h5 hc hk h6⟩
end Go.Proofs.Ytpcnbaddkblbhaa

/- The law's own functions: made, asks. -/
namespace Sim
open Go Go.Vc
variable {K : Int} {m : Int → Int} {k nc tc : Nat} {J : Jn} {ad : Nat → Int}
theorem upN_rep {k : Nat} {J : Jn} (h : Vd k J) : ∀ (d : Nat) (x : Int), dep J x = d → 1 ≤ x → x ≤ k → UpN (bL k J) d x (rep J x)
  | 0, x, hd, h1, h2 => by
    have h0 : par J x = 0 := by
      refine Classical.byContradiction fun h0 => ?_
      have := (up_one h x h0).2
      omega
    exact ⟨(root_rep h x h0).symm, h1, by rw [bL_at k J h1 h2, h0]⟩
  | d + 1, x, hd, h1, h2 => by
    have h0 : par J x ≠ 0 := fun h0 => by
      have := dep_root h x h0
      omega
    obtain ⟨e1, e2⟩ := up_one h x h0
    rcases par_in h x with h3 | ⟨h3, h4⟩
    · exact absurd h3 h0
    · refine ⟨h1, par J x, bL_at k J h1 h2, h0, ?_⟩
      rw [← e1]
      exact upN_rep h d (par J x) (by omega) h3 h4
end Sim
namespace Go.Proofs.Ytpcnbaddkblbhaa
open Go.Vc Sim
set_option maxHeartbeats 8000000
theorem made_spec (w0 : World) (v : Int) (hv : 0 ≤ v ∧ v ≤ 255) : FnE PP w0 [] 34 [.int .u8 v] [] (foV (f0 (v % 39))) [] := by
  have hr : v.tmod 39 = v % 39 := Int.tmod_eq_emod_of_nonneg hv.1
  refine fn_of_run en34 fn34 rfl rfl rfl ?_
  repeat' (first | refine zck ?_ | refine zcp (by kernel_rfl) ?_ | (refine zap rfl ?_; first | (refine reg_rem rfl rfl (by decide) ?_; rw [hr]) | refine zbz rfl (by omega) ?_ | ((with_reducible refine zcu ?_); refine zan rfl ?_) | ((with_reducible refine zdd ?_); refine zae 0 rfl rfl rfl rfl rfl rfl rfl ?_) | ((with_reducible refine zdh ?_); refine zar (fun nb => ?_)) | refine zcb rfl ?_) | refine zch ?_)
  exact run_ret (leaves_nil (ends_take [] rfl (ends_one rfl (resOk_pt 0 rfl rfl rfl) ⟨rfl, rfl, rfl⟩)))
section
variable {a1 : Option Addr} {c1 : Nat} {a2 : Option Addr} {c2 : Nat} {a3 : Option Addr} {c3 : Nat}
/-- The law's state. -/
abbrev stV (wb : Nat) (K : Int) (a1 : Option Addr) (c1 : Nat) (a2 : Option Addr) (c2 : Nat) (a3 : Option Addr) (c3 : Nat) (k : Nat) (J : Jn) : Value :=
  .agg (List.toArray [.map (some wb), .int .i64 1, .int .i64 64, .int .i64 K, .int .i64 16, .slice a1 (bL k J).length c1, .slice a2 (zL k J).length c2, .slice a3 (jL J).length c3])
abbrev RdF (w0 : World) (sh : Shared) (a1 : Option Addr) (c1 : Nat) (a2 : Option Addr) (c2 : Nat) (a3 : Option Addr) (c3 : Nat) (k : Nat) (J : Jn) : Prop := RaR w0 sh a1 c1 a2 c2 a3 c3 (bL k J) (zL k J) (jL J)
variable {K : Int} {m : Int → Int} {k nc tc : Nat} {J : Jn} {ad : Nat → Int}
theorem asks_spec (w0 : World) (sh : Shared) (p wb : Nat) (hK : 0 ≤ K ∧ K ≤ 38) (hR : RdF w0 sh a1 c1 a2 c2 a3 c3 k J) (s0 s : Sp) (j : Nat) (hj : j ≤ 40000) (hC : Cu 368 s0 s m j) (h : Mm K m k nc tc J ad) (a b : Int) (ha : a ≤ 9223372036854775807) (hb : b ≤ 9223372036854775807) :
    Vc.Fn PP w0 sh 58 [spP p, stV wb K a1 c1 a2 c2 a3 c3 k J, .int .i64 a, .int .i64 b] [SpaceA p s] (fun v Γ => ∃ s', v = .bool true ∧ Γ = [SpaceA p s'] ∧ Cu 368 s0 s' m j) := by
  have hbl := bL_len k J
  have hzl := zL_len k J
  have hI := fun x => rfIs w0 sh hR x
  rw [hbl] at hI
  by_cases ca : 1 ≤ a ∧ a ≤ k
  · have hF := rfFind w0 sh hR _ a _ (upN_rep h.vd (dep J a) a rfl ca.1 ca.2)
    have hra := rep_in h.vd a ca.1 ca.2
    have hzr := zL_at k J hra.1 hra.2
    have hpos := h.le
    obtain ⟨r2, l2⟩ : RdSl w0 sh encI 1 (.slice a2 (zL k J).length c2) (zL k J) ∧ (zL k J).length ≤ 1000 := ⟨hR.r2, hR.l2⟩
    obtain ⟨bb, off, cc, TT, fr, e2, hm, hr⟩ := r2.at hzr
    have hda := decide_eq_true ca
    by_cases cb : 1 ≤ b ∧ b ≤ k
    · have hF2 := rfFind w0 sh hR _ b _ (upN_rep h.vd (dep J b) b rfl cb.1 cb.2)
      have hdb := decide_eq_true cb
      have hrb := rep_in h.vd b cb.1 cb.2
      by_cases he : rep J a = rep J b
      · have hS := same_ok hK h ca cb
        rw [decide_eq_true he] at hS
        have he2 := he.symm
        refine fn_of_run en58 fn58 rfl rfl rfl ?_
        subst e2
        repeat (first | refine zck ?_ | refine zcl ?_ | refine zcm ?_ | refine zcn ?_)
        first | refine zcp (by kernel_rfl) ?_ | refine zcq PP_mixed (by kernel_rfl) (by kernel_rfl) ?_
        repeat' (refine zap rfl ?_; first | ((with_reducible refine zcv ?_); refine zan rfl ?_) | ((with_reducible refine zdg ?_); refine zaq (cs := [_, _, _, _, _, _, _, _]) rfl (fun nb => ?_)))
        all_goals refine zch ?_
        all_goals repeat (first | refine zck ?_ | refine zcl ?_ | refine zcm ?_ | refine zcn ?_)
        revert nb; intro bx
        refine run_share [1] rfl ?_
        repeat (first | refine zck ?_ | refine zcl ?_ | refine zcm ?_ | refine zcn ?_)
        first | refine zcp (by kernel_rfl) ?_ | refine zcq PP_mixed (by kernel_rfl) (by kernel_rfl) ?_
        repeat' (refine zap rfl ?_; first | ((with_reducible refine zcu ?_); refine zan rfl ?_) | ((with_reducible refine zcv ?_); refine zan rfl ?_) | ((with_reducible refine zcw ?_); refine zaa 0 rfl rfl rfl ?_) | ((with_reducible refine zcx ?_); (refine reg_callO [0] hC ((f0 K).bd_find a) (find_ok hK h ca.1 ca.2) (by omega) (foFind w0 p (f0 K) (f0_ok hK) a ha) rfl rfl rfl sub_nil ?_; rintro x s m' ⟨rfl, rfl⟩ hC)) | ((with_reducible refine zcy ?_); refine zao rfl ?_) | ((with_reducible refine zcz ?_); refine zan rfl ?_))
        all_goals refine zch ?_
        all_goals repeat (first | refine zck ?_ | refine zcl ?_ | refine zcm ?_ | refine zcn ?_)
        repeat (first | refine zck ?_ | refine zcl ?_ | refine zcm ?_ | refine zcn ?_)
        first | refine zcp (by kernel_rfl) ?_ | refine zcq PP_mixed (by kernel_rfl) (by kernel_rfl) ?_
        repeat' (refine zap rfl ?_; first | ((with_reducible refine zcu ?_); refine zan rfl ?_) | ((with_reducible refine zcv ?_); refine zan rfl ?_) | ((with_reducible refine zcw ?_); refine zaa 0 rfl rfl rfl ?_) | ((with_reducible refine zcx ?_); (refine reg_callO [0] hC ((f0 K).bd_sizeOf a) (size_ok hK h ca.1 ca.2) (by omega) (foSize w0 p (f0 K) (f0_ok hK) a ha) rfl rfl rfl sub_nil ?_; rintro x s m' ⟨rfl, rfl⟩ hC)) | ((with_reducible refine zcy ?_); refine zao rfl ?_) | ((with_reducible refine zcz ?_); refine zan rfl ?_))
        all_goals refine zch ?_
        all_goals repeat (first | refine zck ?_ | refine zcl ?_ | refine zcm ?_ | refine zcn ?_)
        repeat (first | refine zck ?_ | refine zcl ?_ | refine zcm ?_ | refine zcn ?_)
        first | refine zcp (by kernel_rfl) ?_ | refine zcq PP_mixed (by kernel_rfl) (by kernel_rfl) ?_
        repeat' (refine zap rfl ?_; first | ((with_reducible refine zcu ?_); refine zan rfl ?_) | ((with_reducible refine zcv ?_); refine zan rfl ?_) | ((with_reducible refine zcw ?_); refine zaa 0 rfl rfl rfl ?_) | ((with_reducible refine zcx ?_); (refine reg_callO [0] hC ((f0 K).bd_same a b) hS (by omega) (foSame w0 p (f0 K) (f0_ok hK) a b ha hb) rfl rfl rfl sub_nil ?_; rintro x s m' ⟨rfl, rfl⟩ hC)) | ((with_reducible refine zcy ?_); refine zao rfl ?_) | ((with_reducible refine zcz ?_); refine zan rfl ?_))
        all_goals refine zch ?_
        all_goals repeat (first | refine zck ?_ | refine zcl ?_ | refine zcm ?_ | refine zcn ?_)
        refine run_slots [(2, .int .i64 a), (3, .int .i64 b), (5, .pointer (some ⟨bx, 0, none⟩)), (9, .int .i64 (rep J a)), (10, .int .i64 0), (11, .int .i64 (sz J (rep J a))), (12, .int .i64 0), (13, .bool true), (14, .int .i64 0)] ⟨rfl, rfl, rfl, rfl, rfl, rfl, rfl, rfl, rfl, trivial⟩ (fun junk => ?_)
        repeat (first | refine zck ?_ | refine zcl ?_ | refine zcm ?_ | refine zcn ?_)
        first | refine zcp (by kernel_rfl) ?_ | refine zcq PP_mixed (by kernel_rfl) (by kernel_rfl) ?_
        repeat' (refine zap rfl ?_; first | ((with_reducible refine zcu ?_); refine zan rfl ?_) | ((with_reducible refine zcw ?_); refine zaa 0 rfl rfl rfl ?_) | ((with_reducible refine zcx ?_); (refine zah [] (hI a) rfl rfl rfl (fun _ h => .tail _ h) rfl ?_; rw [hda])) | ((with_reducible refine zcy ?_); refine zao rfl ?_) | ((with_reducible refine zdb ?_); refine zbx rfl ?_))
        all_goals refine zch ?_
        all_goals repeat (first | refine zck ?_ | refine zcl ?_ | refine zcm ?_ | refine zcn ?_)
        refine zcj rfl ?_
        repeat (first | refine zck ?_ | refine zcl ?_ | refine zcm ?_ | refine zcn ?_)
        first | refine zcp (by kernel_rfl) ?_ | refine zcq PP_mixed (by kernel_rfl) (by kernel_rfl) ?_
        repeat' (refine zap rfl ?_; first | ((with_reducible refine zcu ?_); refine zan rfl ?_) | ((with_reducible refine zcv ?_); refine zan rfl ?_) | ((with_reducible refine zcw ?_); refine zaa 0 rfl rfl rfl ?_) | ((with_reducible refine zcx ?_); refine zah [] hF rfl rfl rfl (fun _ h => .tail _ h) rfl ?_) | ((with_reducible refine zcy ?_); refine zao rfl ?_))
        all_goals refine zch ?_
        all_goals repeat (first | refine zck ?_ | refine zcl ?_ | refine zcm ?_ | refine zcn ?_)
        refine run_slots [(2, .int .i64 a), (3, .int .i64 b), (5, .pointer (some ⟨bx, 0, none⟩)), (9, .int .i64 (rep J a)), (10, .int .i64 0), (11, .int .i64 (sz J (rep J a))), (12, .int .i64 0), (13, .bool true), (14, .int .i64 0), (15, .int .i64 (rep J a))] ⟨rfl, rfl, rfl, rfl, rfl, rfl, rfl, rfl, rfl, rfl, trivial⟩ (fun junk => ?_)
        repeat (first | refine zck ?_ | refine zcl ?_ | refine zcm ?_ | refine zcn ?_)
        first | refine zcp (by kernel_rfl) ?_ | refine zcq PP_mixed (by kernel_rfl) (by kernel_rfl) ?_
        repeat' (refine zap rfl ?_; first | refine zad rfl (fun hF Γ w h1 h2 => hm hF Γ w (fun p hp => h1 p (.tail _ hp)) h2) (hr _ (by omega)) ?_ | ((with_reducible refine zct ?_); refine zaj rfl ?_) | ((with_reducible refine zcu ?_); refine zan rfl ?_) | ((with_reducible refine zcw ?_); refine zaa 0 rfl rfl rfl ?_) | ((with_reducible refine zcy ?_); refine zao rfl ?_) | ((with_reducible refine zda ?_); first | refine zbf rfl rfl (by omega) ?_ | refine zav rfl rfl (by omega) ?_) | ((with_reducible refine zdc ?_); refine zbv rfl ?_) | ((with_reducible refine zdf ?_); refine zas rfl rfl (by omega) ?_))
        all_goals refine zch ?_
        all_goals repeat (first | refine zck ?_ | refine zcl ?_ | refine zcm ?_ | refine zcn ?_)
        refine zcj rfl ?_
        refine run_slots [(2, .int .i64 a), (3, .int .i64 b), (5, .pointer (some ⟨bx, 0, none⟩)), (9, .int .i64 (rep J a)), (10, .int .i64 0), (11, .int .i64 (sz J (rep J a))), (12, .int .i64 0), (13, .bool true), (14, .int .i64 0), (15, .int .i64 (rep J a))] ⟨rfl, rfl, rfl, rfl, rfl, rfl, rfl, rfl, rfl, rfl, trivial⟩ (fun junk => ?_)
        repeat' (first | refine zck ?_ | refine zcp (by kernel_rfl) ?_ | refine zcm ?_ | (refine zap rfl ?_; first | ((with_reducible refine zct ?_); refine zaj rfl ?_) | ((with_reducible refine zcu ?_); refine zan rfl ?_) | ((with_reducible refine zcv ?_); refine zan rfl ?_) | ((with_reducible refine zcw ?_); refine zaa 0 rfl rfl rfl ?_) | ((with_reducible refine zcx ?_); first | (refine zah [] (hI b) rfl rfl rfl (fun _ h => .tail _ h) rfl ?_; rw [hdb]) | refine zah [] hF2 rfl rfl rfl (fun _ h => .tail _ h) rfl ?_) | ((with_reducible refine zcy ?_); refine zao rfl ?_) | ((with_reducible refine zda ?_); first | refine zbc rfl rfl (by omega) ?_ | refine zbb rfl rfl ?_) | ((with_reducible refine zdb ?_); refine zbx rfl ?_) | ((with_reducible refine zdc ?_); refine zbu rfl ?_)) | refine zch ?_ | refine zcj rfl ?_)
        exact ret_tmp1 rfl ⟨_, rfl, rfl, hC⟩
      · have hS := same_ok hK h ca cb
        rw [decide_eq_false he] at hS
        have he2 := Ne.symm he
        refine fn_of_run en58 fn58 rfl rfl rfl ?_
        subst e2
        repeat (first | refine zck ?_ | refine zcl ?_ | refine zcm ?_ | refine zcn ?_)
        first | refine zcp (by kernel_rfl) ?_ | refine zcq PP_mixed (by kernel_rfl) (by kernel_rfl) ?_
        repeat' (refine zap rfl ?_; first | ((with_reducible refine zcv ?_); refine zan rfl ?_) | ((with_reducible refine zdg ?_); refine zaq (cs := [_, _, _, _, _, _, _, _]) rfl (fun nb => ?_)))
        all_goals refine zch ?_
        all_goals repeat (first | refine zck ?_ | refine zcl ?_ | refine zcm ?_ | refine zcn ?_)
        revert nb; intro bx
        refine run_share [1] rfl ?_
        repeat (first | refine zck ?_ | refine zcl ?_ | refine zcm ?_ | refine zcn ?_)
        first | refine zcp (by kernel_rfl) ?_ | refine zcq PP_mixed (by kernel_rfl) (by kernel_rfl) ?_
        repeat' (refine zap rfl ?_; first | ((with_reducible refine zcu ?_); refine zan rfl ?_) | ((with_reducible refine zcv ?_); refine zan rfl ?_) | ((with_reducible refine zcw ?_); refine zaa 0 rfl rfl rfl ?_) | ((with_reducible refine zcx ?_); (refine reg_callO [0] hC ((f0 K).bd_find a) (find_ok hK h ca.1 ca.2) (by omega) (foFind w0 p (f0 K) (f0_ok hK) a ha) rfl rfl rfl sub_nil ?_; rintro x s m' ⟨rfl, rfl⟩ hC)) | ((with_reducible refine zcy ?_); refine zao rfl ?_) | ((with_reducible refine zcz ?_); refine zan rfl ?_))
        all_goals refine zch ?_
        all_goals repeat (first | refine zck ?_ | refine zcl ?_ | refine zcm ?_ | refine zcn ?_)
        repeat (first | refine zck ?_ | refine zcl ?_ | refine zcm ?_ | refine zcn ?_)
        first | refine zcp (by kernel_rfl) ?_ | refine zcq PP_mixed (by kernel_rfl) (by kernel_rfl) ?_
        repeat' (refine zap rfl ?_; first | ((with_reducible refine zcu ?_); refine zan rfl ?_) | ((with_reducible refine zcv ?_); refine zan rfl ?_) | ((with_reducible refine zcw ?_); refine zaa 0 rfl rfl rfl ?_) | ((with_reducible refine zcx ?_); (refine reg_callO [0] hC ((f0 K).bd_sizeOf a) (size_ok hK h ca.1 ca.2) (by omega) (foSize w0 p (f0 K) (f0_ok hK) a ha) rfl rfl rfl sub_nil ?_; rintro x s m' ⟨rfl, rfl⟩ hC)) | ((with_reducible refine zcy ?_); refine zao rfl ?_) | ((with_reducible refine zcz ?_); refine zan rfl ?_))
        all_goals refine zch ?_
        all_goals repeat (first | refine zck ?_ | refine zcl ?_ | refine zcm ?_ | refine zcn ?_)
        repeat (first | refine zck ?_ | refine zcl ?_ | refine zcm ?_ | refine zcn ?_)
        first | refine zcp (by kernel_rfl) ?_ | refine zcq PP_mixed (by kernel_rfl) (by kernel_rfl) ?_
        repeat' (refine zap rfl ?_; first | ((with_reducible refine zcu ?_); refine zan rfl ?_) | ((with_reducible refine zcv ?_); refine zan rfl ?_) | ((with_reducible refine zcw ?_); refine zaa 0 rfl rfl rfl ?_) | ((with_reducible refine zcx ?_); (refine reg_callO [0] hC ((f0 K).bd_same a b) hS (by omega) (foSame w0 p (f0 K) (f0_ok hK) a b ha hb) rfl rfl rfl sub_nil ?_; rintro x s m' ⟨rfl, rfl⟩ hC)) | ((with_reducible refine zcy ?_); refine zao rfl ?_) | ((with_reducible refine zcz ?_); refine zan rfl ?_))
        all_goals refine zch ?_
        all_goals repeat (first | refine zck ?_ | refine zcl ?_ | refine zcm ?_ | refine zcn ?_)
        refine run_slots [(2, .int .i64 a), (3, .int .i64 b), (5, .pointer (some ⟨bx, 0, none⟩)), (9, .int .i64 (rep J a)), (10, .int .i64 0), (11, .int .i64 (sz J (rep J a))), (12, .int .i64 0), (13, .bool false), (14, .int .i64 0)] ⟨rfl, rfl, rfl, rfl, rfl, rfl, rfl, rfl, rfl, trivial⟩ (fun junk => ?_)
        repeat (first | refine zck ?_ | refine zcl ?_ | refine zcm ?_ | refine zcn ?_)
        first | refine zcp (by kernel_rfl) ?_ | refine zcq PP_mixed (by kernel_rfl) (by kernel_rfl) ?_
        repeat' (refine zap rfl ?_; first | ((with_reducible refine zcu ?_); refine zan rfl ?_) | ((with_reducible refine zcw ?_); refine zaa 0 rfl rfl rfl ?_) | ((with_reducible refine zcx ?_); (refine zah [] (hI a) rfl rfl rfl (fun _ h => .tail _ h) rfl ?_; rw [hda])) | ((with_reducible refine zcy ?_); refine zao rfl ?_) | ((with_reducible refine zdb ?_); refine zbx rfl ?_))
        all_goals refine zch ?_
        all_goals repeat (first | refine zck ?_ | refine zcl ?_ | refine zcm ?_ | refine zcn ?_)
        refine zcj rfl ?_
        repeat (first | refine zck ?_ | refine zcl ?_ | refine zcm ?_ | refine zcn ?_)
        first | refine zcp (by kernel_rfl) ?_ | refine zcq PP_mixed (by kernel_rfl) (by kernel_rfl) ?_
        repeat' (refine zap rfl ?_; first | ((with_reducible refine zcu ?_); refine zan rfl ?_) | ((with_reducible refine zcv ?_); refine zan rfl ?_) | ((with_reducible refine zcw ?_); refine zaa 0 rfl rfl rfl ?_) | ((with_reducible refine zcx ?_); refine zah [] hF rfl rfl rfl (fun _ h => .tail _ h) rfl ?_) | ((with_reducible refine zcy ?_); refine zao rfl ?_))
        all_goals refine zch ?_
        all_goals repeat (first | refine zck ?_ | refine zcl ?_ | refine zcm ?_ | refine zcn ?_)
        refine run_slots [(2, .int .i64 a), (3, .int .i64 b), (5, .pointer (some ⟨bx, 0, none⟩)), (9, .int .i64 (rep J a)), (10, .int .i64 0), (11, .int .i64 (sz J (rep J a))), (12, .int .i64 0), (13, .bool false), (14, .int .i64 0), (15, .int .i64 (rep J a))] ⟨rfl, rfl, rfl, rfl, rfl, rfl, rfl, rfl, rfl, rfl, trivial⟩ (fun junk => ?_)
        repeat (first | refine zck ?_ | refine zcl ?_ | refine zcm ?_ | refine zcn ?_)
        first | refine zcp (by kernel_rfl) ?_ | refine zcq PP_mixed (by kernel_rfl) (by kernel_rfl) ?_
        repeat' (refine zap rfl ?_; first | refine zad rfl (fun hF Γ w h1 h2 => hm hF Γ w (fun p hp => h1 p (.tail _ hp)) h2) (hr _ (by omega)) ?_ | ((with_reducible refine zct ?_); refine zaj rfl ?_) | ((with_reducible refine zcu ?_); refine zan rfl ?_) | ((with_reducible refine zcw ?_); refine zaa 0 rfl rfl rfl ?_) | ((with_reducible refine zcy ?_); refine zao rfl ?_) | ((with_reducible refine zda ?_); first | refine zbf rfl rfl (by omega) ?_ | refine zav rfl rfl (by omega) ?_) | ((with_reducible refine zdc ?_); refine zbv rfl ?_) | ((with_reducible refine zdf ?_); refine zas rfl rfl (by omega) ?_))
        all_goals refine zch ?_
        all_goals repeat (first | refine zck ?_ | refine zcl ?_ | refine zcm ?_ | refine zcn ?_)
        refine zcj rfl ?_
        refine run_slots [(2, .int .i64 a), (3, .int .i64 b), (5, .pointer (some ⟨bx, 0, none⟩)), (9, .int .i64 (rep J a)), (10, .int .i64 0), (11, .int .i64 (sz J (rep J a))), (12, .int .i64 0), (13, .bool false), (14, .int .i64 0), (15, .int .i64 (rep J a))] ⟨rfl, rfl, rfl, rfl, rfl, rfl, rfl, rfl, rfl, rfl, trivial⟩ (fun junk => ?_)
        repeat' (first | refine zck ?_ | refine zcp (by kernel_rfl) ?_ | refine zcm ?_ | (refine zap rfl ?_; first | ((with_reducible refine zct ?_); refine zaj rfl ?_) | ((with_reducible refine zcu ?_); refine zan rfl ?_) | ((with_reducible refine zcv ?_); refine zan rfl ?_) | ((with_reducible refine zcw ?_); refine zaa 0 rfl rfl rfl ?_) | ((with_reducible refine zcx ?_); first | (refine zah [] (hI b) rfl rfl rfl (fun _ h => .tail _ h) rfl ?_; rw [hdb]) | refine zah [] hF2 rfl rfl rfl (fun _ h => .tail _ h) rfl ?_) | ((with_reducible refine zcy ?_); refine zao rfl ?_) | ((with_reducible refine zda ?_); first | refine zbc rfl rfl (by omega) ?_ | refine zbd rfl rfl (by omega) ?_ | refine zbb rfl rfl ?_) | ((with_reducible refine zdb ?_); refine zbx rfl ?_) | ((with_reducible refine zdc ?_); refine zbu rfl ?_)) | refine zch ?_ | refine zcj rfl ?_)
        exact ret_tmp1 rfl ⟨_, rfl, rfl, hC⟩
    · have hS := same_none (K := K) h (x := a) (y := b) (fun h => cb h.2)
      have hdb := decide_eq_false cb
      refine fn_of_run en58 fn58 rfl rfl rfl ?_
      subst e2
      repeat (first | refine zck ?_ | refine zcl ?_ | refine zcm ?_ | refine zcn ?_)
      first | refine zcp (by kernel_rfl) ?_ | refine zcq PP_mixed (by kernel_rfl) (by kernel_rfl) ?_
      repeat' (refine zap rfl ?_; first | ((with_reducible refine zcv ?_); refine zan rfl ?_) | ((with_reducible refine zdg ?_); refine zaq (cs := [_, _, _, _, _, _, _, _]) rfl (fun nb => ?_)))
      all_goals refine zch ?_
      all_goals repeat (first | refine zck ?_ | refine zcl ?_ | refine zcm ?_ | refine zcn ?_)
      revert nb; intro bx
      refine run_share [1] rfl ?_
      repeat (first | refine zck ?_ | refine zcl ?_ | refine zcm ?_ | refine zcn ?_)
      first | refine zcp (by kernel_rfl) ?_ | refine zcq PP_mixed (by kernel_rfl) (by kernel_rfl) ?_
      repeat' (refine zap rfl ?_; first | ((with_reducible refine zcu ?_); refine zan rfl ?_) | ((with_reducible refine zcv ?_); refine zan rfl ?_) | ((with_reducible refine zcw ?_); refine zaa 0 rfl rfl rfl ?_) | ((with_reducible refine zcx ?_); (refine reg_callO [0] hC ((f0 K).bd_find a) (find_ok hK h ca.1 ca.2) (by omega) (foFind w0 p (f0 K) (f0_ok hK) a ha) rfl rfl rfl sub_nil ?_; rintro x s m' ⟨rfl, rfl⟩ hC)) | ((with_reducible refine zcy ?_); refine zao rfl ?_) | ((with_reducible refine zcz ?_); refine zan rfl ?_))
      all_goals refine zch ?_
      all_goals repeat (first | refine zck ?_ | refine zcl ?_ | refine zcm ?_ | refine zcn ?_)
      repeat (first | refine zck ?_ | refine zcl ?_ | refine zcm ?_ | refine zcn ?_)
      first | refine zcp (by kernel_rfl) ?_ | refine zcq PP_mixed (by kernel_rfl) (by kernel_rfl) ?_
      repeat' (refine zap rfl ?_; first | ((with_reducible refine zcu ?_); refine zan rfl ?_) | ((with_reducible refine zcv ?_); refine zan rfl ?_) | ((with_reducible refine zcw ?_); refine zaa 0 rfl rfl rfl ?_) | ((with_reducible refine zcx ?_); (refine reg_callO [0] hC ((f0 K).bd_sizeOf a) (size_ok hK h ca.1 ca.2) (by omega) (foSize w0 p (f0 K) (f0_ok hK) a ha) rfl rfl rfl sub_nil ?_; rintro x s m' ⟨rfl, rfl⟩ hC)) | ((with_reducible refine zcy ?_); refine zao rfl ?_) | ((with_reducible refine zcz ?_); refine zan rfl ?_))
      all_goals refine zch ?_
      all_goals repeat (first | refine zck ?_ | refine zcl ?_ | refine zcm ?_ | refine zcn ?_)
      repeat (first | refine zck ?_ | refine zcl ?_ | refine zcm ?_ | refine zcn ?_)
      first | refine zcp (by kernel_rfl) ?_ | refine zcq PP_mixed (by kernel_rfl) (by kernel_rfl) ?_
      repeat' (refine zap rfl ?_; first | ((with_reducible refine zcu ?_); refine zan rfl ?_) | ((with_reducible refine zcv ?_); refine zan rfl ?_) | ((with_reducible refine zcw ?_); refine zaa 0 rfl rfl rfl ?_) | ((with_reducible refine zcx ?_); (refine reg_callO [0] hC ((f0 K).bd_same a b) hS (by omega) (foSame w0 p (f0 K) (f0_ok hK) a b ha hb) rfl rfl rfl sub_nil ?_; rintro x s m' ⟨rfl, rfl⟩ hC)) | ((with_reducible refine zcy ?_); refine zao rfl ?_) | ((with_reducible refine zcz ?_); refine zan rfl ?_))
      all_goals refine zch ?_
      all_goals repeat (first | refine zck ?_ | refine zcl ?_ | refine zcm ?_ | refine zcn ?_)
      refine run_slots [(2, .int .i64 a), (3, .int .i64 b), (5, .pointer (some ⟨bx, 0, none⟩)), (9, .int .i64 (rep J a)), (10, .int .i64 0), (11, .int .i64 (sz J (rep J a))), (12, .int .i64 0), (13, .bool false), (14, .int .i64 10)] ⟨rfl, rfl, rfl, rfl, rfl, rfl, rfl, rfl, rfl, trivial⟩ (fun junk => ?_)
      repeat (first | refine zck ?_ | refine zcl ?_ | refine zcm ?_ | refine zcn ?_)
      first | refine zcp (by kernel_rfl) ?_ | refine zcq PP_mixed (by kernel_rfl) (by kernel_rfl) ?_
      repeat' (refine zap rfl ?_; first | ((with_reducible refine zcu ?_); refine zan rfl ?_) | ((with_reducible refine zcw ?_); refine zaa 0 rfl rfl rfl ?_) | ((with_reducible refine zcx ?_); (refine zah [] (hI a) rfl rfl rfl (fun _ h => .tail _ h) rfl ?_; rw [hda])) | ((with_reducible refine zcy ?_); refine zao rfl ?_) | ((with_reducible refine zdb ?_); refine zbx rfl ?_))
      all_goals refine zch ?_
      all_goals repeat (first | refine zck ?_ | refine zcl ?_ | refine zcm ?_ | refine zcn ?_)
      refine zcj rfl ?_
      repeat (first | refine zck ?_ | refine zcl ?_ | refine zcm ?_ | refine zcn ?_)
      first | refine zcp (by kernel_rfl) ?_ | refine zcq PP_mixed (by kernel_rfl) (by kernel_rfl) ?_
      repeat' (refine zap rfl ?_; first | ((with_reducible refine zcu ?_); refine zan rfl ?_) | ((with_reducible refine zcv ?_); refine zan rfl ?_) | ((with_reducible refine zcw ?_); refine zaa 0 rfl rfl rfl ?_) | ((with_reducible refine zcx ?_); refine zah [] hF rfl rfl rfl (fun _ h => .tail _ h) rfl ?_) | ((with_reducible refine zcy ?_); refine zao rfl ?_))
      all_goals refine zch ?_
      all_goals repeat (first | refine zck ?_ | refine zcl ?_ | refine zcm ?_ | refine zcn ?_)
      refine run_slots [(2, .int .i64 a), (3, .int .i64 b), (5, .pointer (some ⟨bx, 0, none⟩)), (9, .int .i64 (rep J a)), (10, .int .i64 0), (11, .int .i64 (sz J (rep J a))), (12, .int .i64 0), (13, .bool false), (14, .int .i64 10), (15, .int .i64 (rep J a))] ⟨rfl, rfl, rfl, rfl, rfl, rfl, rfl, rfl, rfl, rfl, trivial⟩ (fun junk => ?_)
      repeat (first | refine zck ?_ | refine zcl ?_ | refine zcm ?_ | refine zcn ?_)
      first | refine zcp (by kernel_rfl) ?_ | refine zcq PP_mixed (by kernel_rfl) (by kernel_rfl) ?_
      repeat' (refine zap rfl ?_; first | refine zad rfl (fun hF Γ w h1 h2 => hm hF Γ w (fun p hp => h1 p (.tail _ hp)) h2) (hr _ (by omega)) ?_ | ((with_reducible refine zct ?_); refine zaj rfl ?_) | ((with_reducible refine zcu ?_); refine zan rfl ?_) | ((with_reducible refine zcw ?_); refine zaa 0 rfl rfl rfl ?_) | ((with_reducible refine zcy ?_); refine zao rfl ?_) | ((with_reducible refine zda ?_); first | refine zbf rfl rfl (by omega) ?_ | refine zav rfl rfl (by omega) ?_) | ((with_reducible refine zdc ?_); refine zbv rfl ?_) | ((with_reducible refine zdf ?_); refine zas rfl rfl (by omega) ?_))
      all_goals refine zch ?_
      all_goals repeat (first | refine zck ?_ | refine zcl ?_ | refine zcm ?_ | refine zcn ?_)
      refine zcj rfl ?_
      refine run_slots [(2, .int .i64 a), (3, .int .i64 b), (5, .pointer (some ⟨bx, 0, none⟩)), (9, .int .i64 (rep J a)), (10, .int .i64 0), (11, .int .i64 (sz J (rep J a))), (12, .int .i64 0), (13, .bool false), (14, .int .i64 10), (15, .int .i64 (rep J a))] ⟨rfl, rfl, rfl, rfl, rfl, rfl, rfl, rfl, rfl, rfl, trivial⟩ (fun junk => ?_)
      repeat' (first | refine zck ?_ | refine zcp (by kernel_rfl) ?_ | refine zcm ?_ | (refine zap rfl ?_; first | ((with_reducible refine zct ?_); refine zaj rfl ?_) | ((with_reducible refine zcu ?_); refine zan rfl ?_) | ((with_reducible refine zcv ?_); refine zan rfl ?_) | ((with_reducible refine zcw ?_); refine zaa 0 rfl rfl rfl ?_) | ((with_reducible refine zcx ?_); (refine zah [] (hI b) rfl rfl rfl (fun _ h => .tail _ h) rfl ?_; rw [hdb])) | ((with_reducible refine zcy ?_); refine zao rfl ?_) | ((with_reducible refine zda ?_); refine zbc rfl rfl (by omega) ?_) | ((with_reducible refine zdb ?_); refine zbx rfl ?_) | ((with_reducible refine zdc ?_); refine zbu rfl ?_)) | refine zch ?_ | refine zci rfl ?_)
      exact ret_tmp1 rfl ⟨_, rfl, rfl, hC⟩
  · have hS := same_none (K := K) h (x := a) (y := b) (fun h => ca h.1)
    have hda := decide_eq_false ca
    refine fn_of_run en58 fn58 rfl rfl rfl ?_
    repeat (first | refine zck ?_ | refine zcl ?_ | refine zcm ?_ | refine zcn ?_)
    first | refine zcp (by kernel_rfl) ?_ | refine zcq PP_mixed (by kernel_rfl) (by kernel_rfl) ?_
    repeat' (refine zap rfl ?_; first | ((with_reducible refine zcv ?_); refine zan rfl ?_) | ((with_reducible refine zdg ?_); refine zaq (cs := [_, _, _, _, _, _, _, _]) rfl (fun nb => ?_)))
    all_goals refine zch ?_
    all_goals repeat (first | refine zck ?_ | refine zcl ?_ | refine zcm ?_ | refine zcn ?_)
    refine run_share [1] rfl ?_
    repeat' (first | refine zck ?_ | refine zcp (by kernel_rfl) ?_ | (refine zap rfl ?_; first | ((with_reducible refine zct ?_); refine zaj rfl ?_) | ((with_reducible refine zcu ?_); refine zan rfl ?_) | ((with_reducible refine zcv ?_); refine zan rfl ?_) | ((with_reducible refine zcw ?_); refine zaa 0 rfl rfl rfl ?_) | ((with_reducible refine zcx ?_); first | (refine reg_callO [0] hC ((f0 K).bd_find a) (find_none h ca) (by omega) (foFind w0 p (f0 K) (f0_ok hK) a ha) rfl rfl rfl sub_nil ?_; rintro x s m' ⟨rfl, rfl⟩ hC) | (refine reg_callO [0] hC ((f0 K).bd_sizeOf a) (size_none h ca) (by omega) (foSize w0 p (f0 K) (f0_ok hK) a ha) rfl rfl rfl sub_nil ?_; rintro x s m' ⟨rfl, rfl⟩ hC) | (refine reg_callO [0] hC ((f0 K).bd_same a b) hS (by omega) (foSame w0 p (f0 K) (f0_ok hK) a b ha hb) rfl rfl rfl sub_nil ?_; rintro x s m' ⟨rfl, rfl⟩ hC) | (refine zah [] (hI a) rfl rfl rfl (fun _ h => .tail _ h) rfl ?_; rw [hda])) | ((with_reducible refine zcy ?_); refine zao rfl ?_) | ((with_reducible refine zcz ?_); refine zan rfl ?_) | ((with_reducible refine zda ?_); refine zbc rfl rfl (by omega) ?_) | ((with_reducible refine zdb ?_); refine zbx rfl ?_) | ((with_reducible refine zdc ?_); refine zbu rfl ?_)) | refine zch ?_ | refine zci rfl ?_)
    exact ret_tmp1 rfl ⟨_, rfl, rfl, hC⟩
end
end Go.Proofs.Ytpcnbaddkblbhaa

