import Derived.Test.YtloekplbhknepaaGreatPart5
import Derived.Test.YtloekplbhknepaaGreatPart4
import Derived.Test.YtloekplbhknepaaGreatPart2
/- Lemmas and walks for the claims of this seat (own work): Na7 Na3 Na4 Na5 Na8 Nk2 Nk3 Nk4 Nk5 Nk6 Nk7 Tk7 Nk8 Td5d. -/
namespace Go.Proofs.YtloekplbhknepaaGreat.NM
open Go.Vc Sim
set_option maxHeartbeats 4000000
theorem trWalkK (w0 : World) (bt : Int) (p : Nat) (T : Tr) (hT : T.Ok) : ∀ (k : Nat) (cell : Int) (d : Nat) (left : Int) (lb : Nat), d ≤ 4 → 0 ≤ left ∧ left ≤ 100 → left < k →
    FnX w0 [] 101 [trVN bt T, spP p, .int .i64 cell, .int .i64 (d : Int), .pointer (some ⟨lb, 0, none⟩)] p (T.walkK k cell d left) [celT lb (.int .i64 left) 3] (walkR lb) := by
  intro k
  induction k with
  | zero => intro cell d left lb _ h1 h2; exact absurd h2 (by omega)
  | succ k ih =>
  intro cell d left lb hd hl hk
  intro s hS
  have hG := At.start hS
  generalize Pg.run _ s = R at hG ⊢
  rw [Tr.walkK] at hG
  refine fn_of_run en101 fn101 rfl rfl rfl ?_
  repeat (first | refine zck ?_ | refine zcl ?_ | refine zcm ?_ | refine zcn ?_)
  first | refine zcp (by kernel_rfl) ?_ | refine zcq PP_mixed (by kernel_rfl) (by kernel_rfl) ?_
  repeat' (refine zap rfl ?_; first | refine zan rfl ?_ | refine zaq (cs := [_, _, _, _, _]) rfl (fun nb => ?_))
  all_goals refine zch ?_
  all_goals repeat (first | refine zck ?_ | refine zcl ?_ | refine zcm ?_ | refine zcn ?_)
  revert nb; intro tb
  refine run_share [2] rfl ?_
  repeat (first | refine zck ?_ | refine zcl ?_ | refine zcm ?_ | refine zcn ?_)
  first | refine zcp (by kernel_rfl) ?_ | refine zcq PP_mixed (by kernel_rfl) (by kernel_rfl) ?_
  repeat' (refine zap rfl ?_; first | refine zan rfl ?_ | refine zan rfl ?_ | refine reg_callG [0] hG (getG w0 p _) rfl rfl rfl sub_nil (fun x s hG => ?_))
  all_goals refine zch ?_
  all_goals repeat (first | refine zck ?_ | refine zcl ?_ | refine zcm ?_ | refine zcn ?_)
  repeat (first | refine zck ?_ | refine zcl ?_ | refine zcm ?_ | refine zcn ?_)
  first | refine zcp (by kernel_rfl) ?_ | refine zcq PP_mixed (by kernel_rfl) (by kernel_rfl) ?_
  repeat' (refine zap rfl ?_; first | refine zan rfl ?_ | refine zbo rfl rfl ?_)
  all_goals refine zch ?_
  all_goals repeat (first | refine zck ?_ | refine zcl ?_ | refine zcm ?_ | refine zcn ?_)
  refine run_cond rfl (fun hx => ?_) (fun hx => ?_)
  · rw [if_pos hx] at hG
    rw [hG.done]
    repeat' (first | refine zck ?_ | refine zcp (by kernel_rfl) ?_ | (refine zap rfl ?_; first | refine zan rfl ?_) | refine zch ?_)
    refine run_nilslice 134 2 ?_
    exact ret_tmp2 rfl ⟨_, rfl, none, 0, rfl, rfl⟩
  · rw [if_neg hx] at hG
    by_cases hx0 : x < 0
    · rw [if_pos hx0] at hG
      repeat (first | refine zck ?_ | refine zcl ?_ | refine zcm ?_ | refine zcn ?_)
      first | refine zcp (by kernel_rfl) ?_ | refine zcq PP_mixed (by kernel_rfl) (by kernel_rfl) ?_
      repeat' (refine zap rfl ?_; first | refine zan rfl ?_ | refine zan rfl ?_ | refine zbg rfl rfl (by omega) ?_)
      all_goals refine zch ?_
      all_goals repeat (first | refine zck ?_ | refine zcl ?_ | refine zcm ?_ | refine zcn ?_)
      repeat (first | refine zck ?_ | refine zcl ?_ | refine zcm ?_ | refine zcn ?_)
      first | refine zcp (by kernel_rfl) ?_ | refine zcq PP_mixed (by kernel_rfl) (by kernel_rfl) ?_
      repeat' (refine zap rfl ?_; first | refine zan rfl ?_)
      all_goals refine zch ?_
      all_goals repeat (first | refine zck ?_ | refine zcl ?_ | refine zcm ?_ | refine zcn ?_)
      refine zci rfl ?_
      repeat (first | refine zck ?_ | refine zcl ?_ | refine zcm ?_ | refine zcn ?_)
      first | refine zcp (by kernel_rfl) ?_ | refine zcq PP_mixed (by kernel_rfl) (by kernel_rfl) ?_
      repeat' (refine zap rfl ?_; first | refine reg_neg rfl ?_ | refine zan rfl ?_ | refine zan rfl ?_)
      all_goals refine zch ?_
      all_goals repeat (first | refine zck ?_ | refine zcl ?_ | refine zcm ?_ | refine zcn ?_)
      repeat (first | refine zck ?_ | refine zcl ?_ | refine zcm ?_ | refine zcn ?_)
      first | refine zcp (by kernel_rfl) ?_ | refine zcq PP_mixed (by kernel_rfl) (by kernel_rfl) ?_
      repeat' (refine zap rfl ?_; first | refine zan rfl ?_ | refine zan rfl ?_ | refine zaa 0 rfl rfl rfl ?_ | refine zah [] (trNode w0 bt T hT _) rfl rfl rfl sub_nil rfl ?_ | refine zan rfl ?_)
      all_goals refine zch ?_
      all_goals repeat (first | refine zck ?_ | refine zcl ?_ | refine zcm ?_ | refine zcn ?_)
      repeat (first | refine zck ?_ | refine zcl ?_ | refine zcm ?_ | refine zcn ?_)
      first | refine zcp (by kernel_rfl) ?_ | refine zcq PP_mixed (by kernel_rfl) (by kernel_rfl) ?_
      repeat' (refine zap rfl ?_; first | refine zan rfl ?_ | refine zab 1 rfl rfl rfl ?_ | refine zav rfl rfl (by omega) ?_ | refine zae 1 rfl rfl rfl rfl rfl rfl rfl ?_ | refine zan rfl ?_)
      all_goals refine zch ?_
      all_goals repeat (first | refine zck ?_ | refine zcl ?_ | refine zcm ?_ | refine zcn ?_)
      have hw : IntKind.i64.wrap (0 - x) = w64 (0 - x) := rfl
      rw [hw]
      have hnb := Tr.nodeN_bd (w64 (0 - x))
      generalize hb : T.nodeB (w64 (0 - x)) = b at hG ⊢
      generalize Tr.nodeN (w64 (0 - x)) = at_ at hG hnb ⊢
      by_cases hc : b = true ∧ 0 ≤ left - 1 ∧ d ≠ 4
      · rw [if_pos hc] at hG
        obtain ⟨rfl, hc2, hc3⟩ := hc
        repeat (first | refine zck ?_ | refine zcl ?_ | refine zcm ?_ | refine zcn ?_)
        first | refine zcp (by kernel_rfl) ?_ | refine zcq PP_mixed (by kernel_rfl) (by kernel_rfl) ?_
        repeat' (refine zap rfl ?_; first | refine zaj rfl ?_ | refine zan rfl ?_ | refine zab 1 rfl rfl rfl ?_ | refine zbd rfl rfl (by omega) ?_ | refine zbh rfl rfl (by omega) ?_ | refine zbx rfl ?_ | refine zbu rfl ?_ | refine zbv rfl ?_ | refine zan rfl ?_)
        all_goals refine zch ?_
        all_goals repeat (first | refine zck ?_ | refine zcl ?_ | refine zcm ?_ | refine zcn ?_)
        refine zcj rfl ?_
        repeat (first | refine zck ?_ | refine zcl ?_ | refine zcm ?_ | refine zcn ?_)
        first | refine zcp (by kernel_rfl) ?_ | refine zcq PP_mixed (by kernel_rfl) (by kernel_rfl) ?_
        repeat' (refine zap rfl ?_; first | refine zan rfl ?_ | refine zbx rfl ?_)
        all_goals refine zch ?_
        all_goals repeat (first | refine zck ?_ | refine zcl ?_ | refine zcm ?_ | refine zcn ?_)
        refine zcj rfl ?_
        repeat (first | refine zck ?_ | refine zcl ?_ | refine zcm ?_ | refine zcn ?_)
        first | refine zcp (by kernel_rfl) ?_ | refine zcq PP_mixed (by kernel_rfl) (by kernel_rfl) ?_
        repeat' (refine zap rfl ?_; first | refine zan rfl ?_)
        all_goals refine zch ?_
        all_goals repeat (first | refine zck ?_ | refine zcl ?_ | refine zcm ?_ | refine zcn ?_)
        repeat (first | refine zck ?_ | refine zcl ?_ | refine zcm ?_ | refine zcn ?_)
        first | refine zcp (by kernel_rfl) ?_ | refine zcq PP_mixed (by kernel_rfl) (by kernel_rfl) ?_
        repeat' (refine zap rfl ?_; first | refine zan rfl ?_)
        all_goals refine zch ?_
        all_goals repeat (first | refine zck ?_ | refine zcl ?_ | refine zcm ?_ | refine zcn ?_)
        refine run_nilslice 134 2 ?_
        refine run_loop (S := Nat × List (Int × Int) × (Option Addr × Nat) × Int × Sp) (fun st => [(1, spP p), (3, .int .i64 (d : Int)), (4, .pointer (some ⟨lb, 0, none⟩)), (5, .pointer (some ⟨tb, 0, none⟩)), (14, .int .i64 at_), (19, .slice st.2.2.1.1 st.2.1.length st.2.2.1.2), (92, .int .i64 (st.1 : Int))])
          (fun st Γ => Γ = [SpaceA p st.2.2.2.2, celT lb (.int .i64 st.2.2.2.1) 3, SlA 134 2 st.2.2.1.1 st.2.1.length st.2.2.1.2 (prV st.2.1)] ∧ At R (Tr.kids (fun c l => T.walkK k c (d + 1) l) (8 - st.1) (at_ + st.1) st.2.1 st.2.2.2.1) st.2.2.2.2 ∧ st.1 ≤ 8 ∧ 0 ≤ st.2.2.2.1 ∧ (st.2.1.length : Int) + st.2.2.2.1 ≤ left - 1)
          (fun st => 8 - st.1) (0, [], (none, 0), left - 1, s) ⟨rfl, rfl, rfl, rfl, rfl, rfl, rfl, trivial⟩ ⟨rfl, by dsimp only; rw [show at_ + ((0 : Nat) : Int) = at_ by omega]; exact hG, Nat.zero_le 8, hc2, by dsimp only [List.length_nil]; omega⟩ ?_
        rintro ⟨i, out, ⟨a, c⟩, lf, s⟩ Γ junk ⟨rfl, hG, hi, hlf, hlen⟩
        dsimp only at hG hi hlf hlen ⊢
        by_cases hlt : i < 8
        · obtain ⟨k', hk'⟩ : ∃ k', 8 - i = k' + 1 := ⟨7 - i, by omega⟩
          rw [hk', Tr.kids] at hG
          repeat (first | refine zck ?_ | refine zcl ?_ | refine zcm ?_ | refine zcn ?_)
          first | refine zcp (by kernel_rfl) ?_ | refine zcq PP_mixed (by kernel_rfl) (by kernel_rfl) ?_
          repeat' (refine zap rfl ?_; first | refine zbg rfl rfl (by omega) ?_)
          all_goals refine zch ?_
          all_goals repeat (first | refine zck ?_ | refine zcl ?_ | refine zcm ?_ | refine zcn ?_)
          refine zci rfl ?_
          repeat (first | refine zck ?_ | refine zcl ?_ | refine zcm ?_ | refine zcn ?_)
          first | refine zcp (by kernel_rfl) ?_ | refine zcq PP_mixed (by kernel_rfl) (by kernel_rfl) ?_
          repeat' (refine zap rfl ?_; first | refine zan rfl ?_ | refine zan rfl ?_)
          all_goals refine zch ?_
          all_goals repeat (first | refine zck ?_ | refine zcl ?_ | refine zcm ?_ | refine zcn ?_)
          have hsp := ih (at_ + i) (d + 1) lf lb (by omega) ⟨hlf, by omega⟩ (by omega)
          rw [show ((d + 1 : Nat) : Int) = (d : Int) + 1 by omega] at hsp
          repeat (first | refine zck ?_ | refine zcl ?_ | refine zcm ?_ | refine zcn ?_)
          first | refine zcp (by kernel_rfl) ?_ | refine zcq PP_mixed (by kernel_rfl) (by kernel_rfl) ?_
          repeat' (refine zap rfl ?_; first | refine zan rfl ?_ | refine zan rfl ?_ | refine zaa 0 rfl rfl rfl ?_ | (refine reg_callX [0, 0] hG (T.all_walkK k _ (d + 1) lf hlf) hsp rfl rfl rfl sub_nil ?_; rintro r s v' Γ1 hφ hwr hG; obtain ⟨a2, c2, h3, h4⟩ := hwr; subst h3; subst h4) | refine zan rfl ?_ | refine zau rfl rfl (by omega) ?_)
          all_goals refine zch ?_
          all_goals repeat (first | refine zck ?_ | refine zcl ?_ | refine zcm ?_ | refine zcn ?_)
          obtain ⟨⟨l2, ok2⟩, left2⟩ := r
          obtain ⟨hφ1, hφ2, hφ3⟩ := hφ
          dsimp only at hG hφ1 hφ2 hφ3
          cases ok2 with
          | false =>
            rw [if_neg (by decide)] at hG
            rw [hG.done]
            repeat' (first | refine zck ?_ | refine zcp (by kernel_rfl) ?_ | (refine zap rfl ?_; first | refine zan rfl ?_ | refine zan rfl ?_ | refine zbx rfl ?_) | refine zch ?_ | refine zci rfl ?_)
            refine run_nilslice 134 2 ?_
            refine run_take [0, 0, 2] rfl ?_
            exact qret2 (fun _ _ h => h) rfl ⟨_, rfl, none, 0, rfl, rfl⟩
          | true =>
            rw [if_pos rfl] at hG
            have hl2 := hφ3 rfl
            repeat' (first | refine zcp (by kernel_rfl) ?_ | refine zcm ?_ | refine zcn ?_ | (refine zap rfl ?_; first | refine zan rfl ?_ | refine zan rfl ?_ | refine reg_append_own (G := fun X a' cap' => [SpaceA p s, celT lb (.int .i64 left2) 3, X, SlA 134 2 a' (out.length + l2.length) cap' (prV out ++ prV l2)]) 3 2 rfl rfl rfl rfl (by decide) (prV_one _) rfl (by first | omega | (dsimp only; omega)) (fun _ _ _ => rfl) (fun X a' c' => ?_) | refine zau rfl rfl (by omega) ?_ | refine zbx rfl ?_) | refine zch ?_ | refine zcj rfl ?_)
            refine run_take [0, 0, 1] rfl ?_
            rw [← List.length_append, ← prV_append]
            exact cut_end ⟨rfl, (i + 1, out ++ l2, (a', c'), left2, s), ⟨rfl, rfl, rfl, rfl, rfl, rfl, int_eq (by dsimp only; omega), trivial⟩, ⟨rfl, by dsimp only; rw [show 8 - (i + 1) = k' by omega, show at_ + ((i + 1 : Nat) : Int) = at_ + i + 1 by omega]; exact hG, hlt, hl2, by dsimp only; rw [List.length_append]; omega⟩, by dsimp only; omega⟩
        · obtain rfl : i = 8 := by omega
          rw [Nat.sub_self, Tr.kids] at hG
          rw [hG.done]
          repeat (first | refine zck ?_ | refine zcl ?_ | refine zcm ?_ | refine zcn ?_)
          first | refine zcp (by kernel_rfl) ?_ | refine zcq PP_mixed (by kernel_rfl) (by kernel_rfl) ?_
          repeat' (refine zap rfl ?_; first | refine zbh rfl rfl (by omega) ?_)
          all_goals refine zch ?_
          all_goals repeat (first | refine zck ?_ | refine zcl ?_ | refine zcm ?_ | refine zcn ?_)
          refine zcj rfl ?_
          refine cut_exit rfl rfl ?_
          repeat' (first | refine zck ?_ | refine zcp (by kernel_rfl) ?_ | (refine zap rfl ?_; first | refine zan rfl ?_ | refine zan rfl ?_) | refine zch ?_)
          exact ret_tmp2 rfl ⟨_, rfl, a, c, rfl, rfl⟩
      · rw [if_neg hc] at hG
        rw [hG.done]
        cases b with
        | false =>
          repeat' (first | refine zck ?_ | refine zcp (by kernel_rfl) ?_ | (refine zap rfl ?_; first | refine zak rfl ?_ | refine zal rfl ?_ | refine zan rfl ?_ | refine zan rfl ?_ | refine zbx rfl ?_ | refine zbu rfl ?_) | refine zch ?_ | refine zci rfl ?_)
          refine run_nilslice 134 2 ?_
          exact ret_tmp2 rfl ⟨_, rfl, none, 0, rfl, rfl⟩
        | true =>
          by_cases hc2 : left - 1 < 0
          · repeat' (first | refine zck ?_ | refine zcp (by kernel_rfl) ?_ | (refine zap rfl ?_; first | refine zaj rfl ?_ | refine zak rfl ?_ | refine zal rfl ?_ | refine zan rfl ?_ | refine zan rfl ?_ | refine zab 1 rfl rfl rfl ?_ | refine zbg rfl rfl (by omega) ?_ | refine zbx rfl ?_ | refine zbu rfl ?_ | refine zbv rfl ?_ | refine zan rfl ?_) | refine zch ?_ | refine zci rfl ?_)
            refine run_nilslice 134 2 ?_
            exact ret_tmp2 rfl ⟨_, rfl, none, 0, rfl, rfl⟩
          · have hc3 : d = 4 := Classical.byContradiction fun h => hc ⟨rfl, by omega, h⟩
            repeat' (first | refine zck ?_ | refine zcp (by kernel_rfl) ?_ | (refine zap rfl ?_; first | refine zaj rfl ?_ | refine zan rfl ?_ | refine zan rfl ?_ | refine zab 1 rfl rfl rfl ?_ | refine zbc rfl rfl (by omega) ?_ | refine zbh rfl rfl (by omega) ?_ | refine zbx rfl ?_ | refine zbu rfl ?_ | refine zbv rfl ?_ | refine zan rfl ?_) | refine zch ?_ | refine zci rfl ?_)
            refine run_nilslice 134 2 ?_
            exact ret_tmp2 rfl ⟨_, rfl, none, 0, rfl, rfl⟩
    · rw [if_neg hx0] at hG
      repeat (first | refine zck ?_ | refine zcl ?_ | refine zcm ?_ | refine zcn ?_)
      first | refine zcp (by kernel_rfl) ?_ | refine zcq PP_mixed (by kernel_rfl) (by kernel_rfl) ?_
      repeat' (refine zap rfl ?_; first | refine zan rfl ?_ | refine zan rfl ?_ | refine zbh rfl rfl (by omega) ?_)
      all_goals refine zch ?_
      all_goals repeat (first | refine zck ?_ | refine zcl ?_ | refine zcm ?_ | refine zcn ?_)
      repeat (first | refine zck ?_ | refine zcl ?_ | refine zcm ?_ | refine zcn ?_)
      first | refine zcp (by kernel_rfl) ?_ | refine zcq PP_mixed (by kernel_rfl) (by kernel_rfl) ?_
      repeat' (refine zap rfl ?_; first | refine zan rfl ?_)
      all_goals refine zch ?_
      all_goals repeat (first | refine zck ?_ | refine zcl ?_ | refine zcm ?_ | refine zcn ?_)
      refine zcj rfl ?_
      repeat (first | refine zck ?_ | refine zcl ?_ | refine zcm ?_ | refine zcn ?_)
      first | refine zcp (by kernel_rfl) ?_ | refine zcq PP_mixed (by kernel_rfl) (by kernel_rfl) ?_
      repeat' (refine zap rfl ?_; first | refine zan rfl ?_ | refine zan rfl ?_ | refine zaa 0 rfl rfl rfl ?_ | refine zah [] (trNode w0 bt T hT _) rfl rfl rfl sub_nil rfl ?_ | refine zan rfl ?_)
      all_goals refine zch ?_
      all_goals repeat (first | refine zck ?_ | refine zcl ?_ | refine zcm ?_ | refine zcn ?_)
      repeat (first | refine zck ?_ | refine zcl ?_ | refine zcm ?_ | refine zcn ?_)
      first | refine zcp (by kernel_rfl) ?_ | refine zcq PP_mixed (by kernel_rfl) (by kernel_rfl) ?_
      repeat' (refine zap rfl ?_; first | refine zan rfl ?_ | refine zab 1 rfl rfl rfl ?_ | refine zav rfl rfl (by omega) ?_ | refine zae 1 rfl rfl rfl rfl rfl rfl rfl ?_ | refine zan rfl ?_)
      all_goals refine zch ?_
      all_goals repeat (first | refine zck ?_ | refine zcl ?_ | refine zcm ?_ | refine zcn ?_)
      have hnb := Tr.nodeN_bd x
      generalize hb : T.nodeB x = b at hG ⊢
      generalize Tr.nodeN x = at_ at hG hnb ⊢
      by_cases hc : b = true ∧ 0 ≤ left - 1
      · rw [if_pos hc] at hG
        obtain ⟨rfl, hc2⟩ := hc
        repeat (first | refine zck ?_ | refine zcl ?_ | refine zcm ?_ | refine zcn ?_)
        first | refine zcp (by kernel_rfl) ?_ | refine zcq PP_mixed (by kernel_rfl) (by kernel_rfl) ?_
        repeat' (refine zap rfl ?_; first | refine zaj rfl ?_ | refine zak rfl ?_ | refine zan rfl ?_ | refine zab 1 rfl rfl rfl ?_ | refine zbh rfl rfl (by omega) ?_ | refine zbx rfl ?_ | refine zbv rfl ?_ | refine zan rfl ?_)
        all_goals refine zch ?_
        all_goals repeat (first | refine zck ?_ | refine zcl ?_ | refine zcm ?_ | refine zcn ?_)
        refine zcj rfl ?_
        repeat (first | refine zck ?_ | refine zcl ?_ | refine zcm ?_ | refine zcn ?_)
        first | refine zcp (by kernel_rfl) ?_ | refine zcq PP_mixed (by kernel_rfl) (by kernel_rfl) ?_
        repeat' (refine zap rfl ?_; first | refine zan rfl ?_ | refine zbx rfl ?_)
        all_goals refine zch ?_
        all_goals repeat (first | refine zck ?_ | refine zcl ?_ | refine zcm ?_ | refine zcn ?_)
        refine zci rfl ?_
        repeat (first | refine zck ?_ | refine zcl ?_ | refine zcm ?_ | refine zcn ?_)
        first | refine zcp (by kernel_rfl) ?_ | refine zcq PP_mixed (by kernel_rfl) (by kernel_rfl) ?_
        repeat' (refine zap rfl ?_; first | refine reg_buildSlice rfl rfl rfl rfl rfl rfl (fun nb2 => ?_) | refine zan rfl ?_ | refine zan rfl ?_ | refine reg_callG [0] hG (getG w0 p _) rfl rfl rfl sub_nil (fun v s hG => ?_) | refine zau rfl rfl (by omega) ?_ | refine zcb rfl ?_)
        all_goals refine zch ?_
        all_goals repeat (first | refine zck ?_ | refine zcl ?_ | refine zcm ?_ | refine zcn ?_)
        rename_i n s2 hG2
        refine run_exch 2 (SlA 134 2 (some ⟨nb2, 0, none⟩) 1 1 (prV [(n, v)])) rfl (SlA_pt rfl) rfl ?_
        by_cases h4 : d < 4
        · rw [if_pos h4] at hG
          rw [hG.done]
          repeat' (first | refine zck ?_ | refine zcp (by kernel_rfl) ?_ | (refine zap rfl ?_; first | refine zan rfl ?_ | refine zan rfl ?_ | refine zbg rfl rfl (by omega) ?_) | refine zch ?_ | refine zci rfl ?_)
          exact ret_tmp2 rfl ⟨_, rfl, some ⟨nb2, 0, none⟩, 1, rfl, rfl⟩
        · rw [if_neg h4] at hG
          repeat (first | refine zck ?_ | refine zcl ?_ | refine zcm ?_ | refine zcn ?_)
          first | refine zcp (by kernel_rfl) ?_ | refine zcq PP_mixed (by kernel_rfl) (by kernel_rfl) ?_
          repeat' (refine zap rfl ?_; first | refine zan rfl ?_ | refine zbh rfl rfl (by omega) ?_)
          all_goals refine zch ?_
          all_goals repeat (first | refine zck ?_ | refine zcl ?_ | refine zcm ?_ | refine zcn ?_)
          refine zcj rfl ?_
          repeat (first | refine zck ?_ | refine zcl ?_ | refine zcm ?_ | refine zcn ?_)
          first | refine zcp (by kernel_rfl) ?_ | refine zcq PP_mixed (by kernel_rfl) (by kernel_rfl) ?_
          repeat' (refine zap rfl ?_; first | refine zan rfl ?_ | refine reg_callG [0] hG (getG w0 p _) rfl rfl rfl sub_nil (fun y s hG => ?_) | refine zau rfl rfl (by omega) ?_ | refine zbq rfl rfl ?_)
          all_goals refine zch ?_
          all_goals repeat (first | refine zck ?_ | refine zcl ?_ | refine zcm ?_ | refine zcn ?_)
          refine run_cond rfl (fun hy => ?_) (fun hy => ?_)
          · rw [if_pos hy] at hG
            rw [hG.done]
            repeat' (first | refine zck ?_ | refine zcp (by kernel_rfl) ?_ | (refine zap rfl ?_; first | refine zan rfl ?_) | refine zch ?_)
            refine run_nilslice 134 2 ?_
            refine run_take [0, 0, 1] rfl ?_
            exact ret_tmp2 rfl ⟨_, rfl, none, 0, rfl, rfl⟩
          · rw [if_neg hy] at hG
            have hsp := ih (at_ + 2) d (left - 1) lb hd ⟨hc2, by omega⟩ (by omega)
            repeat (first | refine zck ?_ | refine zcl ?_ | refine zcm ?_ | refine zcn ?_)
            first | refine zcp (by kernel_rfl) ?_ | refine zcq PP_mixed (by kernel_rfl) (by kernel_rfl) ?_
            repeat' (refine zap rfl ?_; first | refine zan rfl ?_ | refine zan rfl ?_ | refine zaa 0 rfl rfl rfl ?_ | (refine reg_callX [0, 0] hG (T.all_walkK k _ d (left - 1) hc2) hsp rfl rfl rfl sub_nil ?_; rintro r s v' Γ1 hφ hwr hG; obtain ⟨a2, c2, h3, h4⟩ := hwr; subst h3; subst h4) | refine zan rfl ?_ | refine zau rfl rfl (by omega) ?_)
            all_goals refine zch ?_
            all_goals repeat (first | refine zck ?_ | refine zcl ?_ | refine zcm ?_ | refine zcn ?_)
            obtain ⟨⟨l2, ok2⟩, left2⟩ := r
            obtain ⟨hφ1, hφ2, hφ3⟩ := hφ
            dsimp only at hG hφ1 hφ2 hφ3
            rw [hG.done]
            repeat' (first | refine zcp (by kernel_rfl) ?_ | (refine zap rfl ?_; first | refine zan rfl ?_ | refine zan rfl ?_ | refine reg_append_own (G := fun X a' cap' => [SpaceA p s, celT lb (.int .i64 left2) 3, X, SlA 134 2 a' (1 + l2.length) cap' (prV [(n, v)] ++ prV l2)]) 3 2 rfl rfl rfl rfl (by decide) (prV_one _) rfl (by first | omega | (dsimp only; omega)) (fun _ _ _ => rfl) (fun X a' c' => ?_)) | refine zch ?_)
            refine run_take [0, 0, 1] rfl ?_
            have e1 : 1 + l2.length = ((n, v) :: l2).length := by rw [List.length_cons]; omega
            have e2 : prV [(n, v)] ++ prV l2 = prV ((n, v) :: l2) := by rw [prV_cons]; rfl
            exact ret_tmp2 rfl ⟨_, rfl, a', c', congrArg (fun q => Value.tuple #[.slice a' q c', .bool ok2]) e1, congrArg (fun (z : Nat × List Value) => [celT lb (.int .i64 left2) 3, SlA 134 2 a' z.1 c' z.2]) (Prod.ext (x := (_, _)) (y := (_, _)) e1 e2)⟩
      · rw [if_neg hc] at hG
        rw [hG.done]
        cases b with
        | false =>
          repeat' (first | refine zck ?_ | refine zcp (by kernel_rfl) ?_ | (refine zap rfl ?_; first | refine zak rfl ?_ | refine zal rfl ?_ | refine zan rfl ?_ | refine zan rfl ?_ | refine zbx rfl ?_ | refine zbu rfl ?_) | refine zch ?_ | refine zci rfl ?_)
          refine run_nilslice 134 2 ?_
          exact ret_tmp2 rfl ⟨_, rfl, none, 0, rfl, rfl⟩
        | true =>
          have hc2 : left - 1 < 0 := Classical.byContradiction fun h => hc ⟨rfl, by omega⟩
          repeat' (first | refine zck ?_ | refine zcp (by kernel_rfl) ?_ | (refine zap rfl ?_; first | refine zaj rfl ?_ | refine zak rfl ?_ | refine zal rfl ?_ | refine zan rfl ?_ | refine zan rfl ?_ | refine zab 1 rfl rfl rfl ?_ | refine zbg rfl rfl (by omega) ?_ | refine zbx rfl ?_ | refine zbu rfl ?_ | refine zbv rfl ?_ | refine zan rfl ?_) | refine zch ?_ | refine zci rfl ?_)
          refine run_nilslice 134 2 ?_
          exact ret_tmp2 rfl ⟨_, rfl, none, 0, rfl, rfl⟩
end Go.Proofs.YtloekplbhknepaaGreat.NM

namespace Go.Proofs.YtloekplbhknepaaGreat.NM
open Go.Vc Sim
set_option maxHeartbeats 4000000
theorem trSplit (w0 : World) (bt : Int) (p : Nat) (T : Tr) (hT : T.Ok) (hI : T.IsN bt) (hbt : 0 ≤ bt ∧ bt ≤ 255) (w : TWay) (hw : w.depth ≤ 4) (a1 : Option Addr) (c1 : Nat) (a2 : Option Addr) (c2 : Nat) (h : Int) (hh : 0 ≤ h) :
    FnX w0 [] 99 [trVN bt T, spP p, wayV a1 c1 a2 c2 w, .int .u64 h] p (T.split w h) [] (fun r v Γ => v = .tuple #[wayV a1 c1 a2 c2 r.1, .int .i64 r.2] ∧ Γ = []) := by
  intro s hS; have hG := At.start hS; generalize Pg.run _ s = R at hG ⊢
  unfold Tr.split at hG
  refine fn_of_run en99 fn99 rfl rfl rfl ?_
  repeat (first | refine zck ?_ | refine zcl ?_ | refine zcm ?_ | refine zcn ?_)
  first | refine zcp (by kernel_rfl) ?_ | refine zcq PP_mixed (by kernel_rfl) (by kernel_rfl) ?_
  repeat' (refine zap rfl ?_; first | refine zan rfl ?_ | refine zaq (cs := [_, _, _, _]) rfl (fun nb => ?_) | refine zaq (cs := [_, _, _, _, _]) rfl (fun nb => ?_) | refine zar (fun nb => ?_))
  all_goals refine zch ?_
  all_goals repeat (first | refine zck ?_ | refine zcl ?_ | refine zcm ?_ | refine zcn ?_)
  rename_i tb wb
  revert nb; intro rb
  refine run_share [1] rfl ?_
  refine run_loop (S := TWay × Sp) (fun st => [(1, spP p), (3, .int .u64 h), (4, .pointer (some ⟨tb, 0, none⟩)), (6, .pointer (some ⟨wb, 0, none⟩)), (8, .pointer (some ⟨rb, 0, none⟩))])
    (fun st Γ => Γ = [SpaceA p st.2, pt wb (.cells (List.toArray [.slice a1 w.bs.length c1, .slice a2 w.cs.length c2, .int .i64 st.1.cell, .int .i64 (st.1.depth : Int)]) 115 (0, 0)), pt rb (.cells (List.toArray [.slice none 0 0, .slice none 0 0, .int .i64 0, .int .i64 0]) 115 (0, 0))] ∧ At R (T.splitK h (4 - st.1.depth) st.1) st.2 ∧ st.1.depth ≤ 4 ∧ st.1.bs = w.bs ∧ st.1.cs = w.cs)
    (fun st => 4 - st.1.depth) (w, s) ⟨rfl, rfl, rfl, rfl, rfl, trivial⟩ ⟨rfl, hG, hw, rfl, rfl⟩ ?_
  rintro ⟨⟨bs, cs, cell, d⟩, s⟩ Γ junk ⟨rfl, hG, hd, rfl, rfl⟩
  dsimp only at hG hd ⊢
  by_cases h4 : d < 4
  · obtain ⟨k, hk⟩ : ∃ k, 4 - d = k + 1 := ⟨3 - d, by omega⟩
    rw [hk, Tr.splitK] at hG
    dsimp only at hG
    repeat (first | refine zck ?_ | refine zcl ?_ | refine zcm ?_ | refine zcn ?_)
    first | refine zcp (by kernel_rfl) ?_ | refine zcq PP_mixed (by kernel_rfl) (by kernel_rfl) ?_
    repeat' (refine zap rfl ?_; first | refine zaj rfl ?_ | refine zan rfl ?_ | refine zab 1 rfl rfl rfl ?_ | refine reg_callG [0] hG (getG w0 p _) rfl rfl rfl sub_nil (fun x s hG => ?_) | refine zao rfl ?_ | refine zbg rfl rfl (by omega) ?_ | refine zbp rfl rfl ?_ | refine zbu rfl ?_)
    all_goals refine zch ?_
    all_goals repeat (first | refine zck ?_ | refine zcl ?_ | refine zcm ?_ | refine zcn ?_)
    refine run_cond rfl (fun hx => ?_) (fun hx => ?_)
    · rw [if_neg hx] at hG
      repeat (first | refine zck ?_ | refine zcl ?_ | refine zcm ?_ | refine zcn ?_)
      first | refine zcp (by kernel_rfl) ?_ | refine zcq PP_mixed (by kernel_rfl) (by kernel_rfl) ?_
      repeat' (refine zap rfl ?_; first | refine zan rfl ?_ | refine zan rfl ?_ | refine zab 1 rfl rfl rfl ?_ | refine reg_callG [0] hG (getG w0 p _) rfl rfl rfl sub_nil (fun v s hG => ?_) | refine zao rfl ?_)
      all_goals refine zch ?_
      all_goals repeat (first | refine zck ?_ | refine zcl ?_ | refine zcm ?_ | refine zcn ?_)
      repeat (first | refine zck ?_ | refine zcl ?_ | refine zcm ?_ | refine zcn ?_)
      first | refine zcp (by kernel_rfl) ?_ | refine zcq PP_mixed (by kernel_rfl) (by kernel_rfl) ?_
      repeat' (refine zap rfl ?_; first | refine zan rfl ?_ | refine zan rfl ?_ | refine zaa 0 rfl rfl rfl ?_ | refine zah [] (trNode w0 bt T hT _) rfl rfl rfl sub_nil rfl ?_ | refine zan rfl ?_)
      all_goals refine zch ?_
      all_goals repeat (first | refine zck ?_ | refine zcl ?_ | refine zcm ?_ | refine zcn ?_)
      generalize hb : T.nodeB v = b at hG ⊢
      cases b with
      | false =>
        simp only [Bool.false_eq_true, if_false] at hG
        rw [hG.done]
        repeat' (first | refine zck ?_ | refine zcp (by kernel_rfl) ?_ | (refine zap rfl ?_; first | refine zan rfl ?_ | refine zan rfl ?_ | refine zab 1 rfl rfl rfl ?_ | refine zbx rfl ?_ | refine zae 2 rfl rfl rfl rfl rfl rfl rfl ?_) | refine zch ?_ | refine zci rfl ?_)
        exact qret rfl (fun _ _ h => h) (leaves_nil (ends_take [0] rfl (ends_two rfl (resOk_pt 2 rfl rfl rfl) rfl ⟨rfl, [], rfl, rfl, rfl⟩)))
      | true =>
        simp only [if_true] at hG
        repeat (first | refine zck ?_ | refine zcl ?_ | refine zcm ?_ | refine zcn ?_)
        first | refine zcp (by kernel_rfl) ?_ | refine zcq PP_mixed (by kernel_rfl) (by kernel_rfl) ?_
        repeat' (refine zap rfl ?_; first | refine zan rfl ?_ | refine zbx rfl ?_)
        all_goals refine zch ?_
        all_goals repeat (first | refine zck ?_ | refine zcl ?_ | refine zcm ?_ | refine zcn ?_)
        refine zcj rfl ?_
        repeat (first | refine zck ?_ | refine zcl ?_ | refine zcm ?_ | refine zcn ?_)
        first | refine zcp (by kernel_rfl) ?_ | refine zcq PP_mixed (by kernel_rfl) (by kernel_rfl) ?_
        repeat' (refine zap rfl ?_; first | refine reg_nilI rfl ?_ | refine zan rfl ?_ | refine zan rfl ?_ | refine zaa 0 rfl rfl rfl ?_ | refine reg_callG [0] hG (getG w0 p _) rfl rfl rfl sub_nil (fun o s hG => ?_) | ((by_cases ho15 : 100 ≤ o ∧ o ≤ 115) <;> first | refine reg_invokeE [] (nmKey w0 bt o ho15) rfl rfl rfl sub_nil rfl ?_ | refine reg_invokeE [] (nmKey0 w0 bt o ho15) rfl rfl rfl sub_nil rfl ?_) | refine zao rfl ?_ | refine zan rfl ?_ | refine zae 3 rfl rfl rfl rfl rfl rfl rfl ?_ | refine zar (fun nb => ?_))
        all_goals refine zch ?_
        all_goals repeat (first | refine zck ?_ | refine zcl ?_ | refine zcm ?_ | refine zcn ?_)
        case neg =>
          have hno : T.has o = false := by rw [hI.has]; exact decide_eq_false ho15
          rw [hno, if_neg (by decide)] at hG
          rw [hG.done]
          repeat (first | refine zck ?_ | refine zcl ?_ | refine zcm ?_ | refine zcn ?_)
          first | refine zcp (by kernel_rfl) ?_ | refine zcq PP_mixed (by kernel_rfl) (by kernel_rfl) ?_
          repeat' (refine zap rfl ?_; first | refine zan rfl ?_ | refine zbx rfl ?_)
          all_goals refine zch ?_
          all_goals repeat (first | refine zck ?_ | refine zcl ?_ | refine zcm ?_ | refine zcn ?_)
          refine zci rfl ?_
          repeat' (first | refine zck ?_ | refine zcp (by kernel_rfl) ?_ | (refine zap rfl ?_; first | refine zan rfl ?_ | refine zab 1 rfl rfl rfl ?_ | refine zae 2 rfl rfl rfl rfl rfl rfl rfl ?_) | refine zch ?_)
          exact qret rfl (fun _ _ h => h) (leaves_nil (ends_take [0] rfl (ends_two rfl (resOk_pt 2 rfl rfl rfl) rfl ⟨rfl, [], rfl, rfl, rfl⟩)))
        have hyes : T.has o = true := by rw [hI.has]; exact decide_eq_true ho15
        rw [if_pos hyes] at hG
        revert nb; intro kb
        refine run_share [3] rfl ?_
        repeat (first | refine zck ?_ | refine zcl ?_ | refine zcm ?_ | refine zcn ?_)
        first | refine zcp (by kernel_rfl) ?_ | refine zcq PP_mixed (by kernel_rfl) (by kernel_rfl) ?_
        repeat' (refine zap rfl ?_; first | refine zan rfl ?_ | refine zbx rfl ?_)
        all_goals refine zch ?_
        all_goals repeat (first | refine zck ?_ | refine zcl ?_ | refine zcm ?_ | refine zcn ?_)
        refine zcj rfl ?_
        repeat (first | refine zck ?_ | refine zcl ?_ | refine zcm ?_ | refine zcn ?_)
        first | refine zcp (by kernel_rfl) ?_ | refine zcq PP_mixed (by kernel_rfl) (by kernel_rfl) ?_
        repeat' (refine zap rfl ?_; first | refine reg_makeSlice rfl rfl rfl (by decide) (by decide) (fun lb => ?_) | refine zan rfl ?_ | refine zan rfl ?_ | refine zaa 1 rfl rfl rfl ?_ | (refine reg_callX [0, 2] hG (Pg.all_triv _) (trTake w0 bt p _ T hT (List.replicate 8 0) (by decide)) rfl rfl rfl sub_nil ?_; rintro b s v' Γ1 _ ⟨rfl, rfl⟩ hG) | refine zan rfl ?_)
        all_goals refine zch ?_
        all_goals repeat (first | refine zck ?_ | refine zcl ?_ | refine zcm ?_ | refine zcn ?_)
        repeat (first | refine zck ?_ | refine zcl ?_ | refine zcm ?_ | refine zcn ?_)
        first | refine zcp (by kernel_rfl) ?_ | refine zcq PP_mixed (by kernel_rfl) (by kernel_rfl) ?_
        repeat' (refine zap rfl ?_; first | refine zan rfl ?_ | refine zbp rfl rfl ?_)
        all_goals refine zch ?_
        all_goals repeat (first | refine zck ?_ | refine zcl ?_ | refine zcm ?_ | refine zcn ?_)
        refine run_cond rfl (fun hE => ?_) (fun hE => ?_)
        · rw [if_pos hE] at hG
          rw [hG.done]
          repeat' (first | refine zck ?_ | refine zcp (by kernel_rfl) ?_ | (refine zap rfl ?_; first | refine zan rfl ?_ | refine zan rfl ?_ | refine zab 1 rfl rfl rfl ?_ | refine zae 2 rfl rfl rfl rfl rfl rfl rfl ?_) | refine zch ?_)
          exact qret rfl (fun _ _ h => h) (leaves_nil (ends_take [0] rfl (ends_two rfl (resOk_pt 2 rfl rfl rfl) rfl ⟨rfl, [], rfl, rfl, rfl⟩)))
        · rw [if_neg hE] at hG
          have ho := hT.h0 o
          have hsp : FnE PP w0 [] 163 [.agg (List.toArray [.int .u8 bt]), nmV (o - 3)] [] (.int .u64 (T.hash o)) [] := by rw [hI.hash]; exact nmHash w0 bt o hbt ho15
          repeat (first | refine zck ?_ | refine zcl ?_ | refine zcm ?_ | refine zcn ?_)
          refine run_drawT [1] [(.quiet, 0), (.quiet, 1), (.quiet, 2), (.quiet, 3), (.quiet, 4), (.loud, 5), (.quiet, 6), (.quiet, 7), (.quiet, 8), (.quiet, 9), (.quiet, 10), (.quiet, 11), (.quiet, 12), (.quiet, 13)] [(.loud, 14)] PP_mixed (by kernel_rfl) (by kernel_rfl) rfl ?_
          repeat' (refine zap rfl ?_; first | refine reg_shr (q := 3 * d) rfl (int_eq (by omega)) (by show 3 * d ≤ 64; omega) ?_ | refine reg_dig (q := d) ho rfl rfl ?_ | refine zbz rfl (by have := dig_bd8 (T.hash o) d; omega) ?_ | refine reg_add (t := 28) rfl rfl ?_ | refine zan rfl ?_ | refine zaa 0 rfl rfl rfl ?_ | refine zaa 1 rfl rfl rfl ?_ | refine zaa 2 rfl rfl rfl ?_ | refine reg_invokeE [] hsp rfl rfl rfl sub_nil rfl ?_ | refine zao rfl ?_ | refine zaw rfl rfl (by omega) ?_)
          all_goals refine reg_turn ?_
          all_goals repeat' (refine zap rfl ?_; first | refine reg_callG [1] hG (putG w0 p _ _) rfl rfl rfl sub_nil (fun u s hG => ?_))
          all_goals refine zch ?_
          all_goals repeat (first | refine zck ?_ | refine zcl ?_ | refine zcm ?_ | refine zcn ?_)
          repeat' (first | refine zck ?_ | refine zcp (by kernel_rfl) ?_ | refine zcn ?_ | (refine zap rfl ?_; first | refine reg_neg rfl ?_ | refine reg_shr (q := 3 * d) rfl (int_eq (by omega)) (by show 3 * d ≤ 64; omega) ?_ | refine reg_dig (q := d) hh rfl rfl ?_ | refine zbz rfl (by have := dig_bd8 h d; omega) ?_ | refine reg_add (t := 28) rfl rfl ?_ | refine zan rfl ?_ | refine zab 1 rfl rfl rfl ?_ | refine reg_callG [0] hG (putG w0 p _ _) rfl rfl rfl sub_nil (fun u s hG => ?_) | refine zao rfl ?_ | refine zau rfl rfl (by omega) ?_ | refine zaw rfl rfl (by omega) ?_ | refine zae 1 rfl rfl rfl rfl rfl rfl rfl ?_) | refine zch ?_)
          have e3 : ((d + 1 : Nat) : Int) = (d : Int) + 1 := by omega
          refine cut_end ?_
          refine ⟨rfl, ?_⟩
          refine ⟨(⟨w.bs, w.cs, w64 (b.1 + dig h d), d + 1⟩, s), ?_⟩
          refine ⟨⟨rfl, rfl, rfl, rfl, rfl, trivial⟩, ⟨?_, ?_, h4, rfl, rfl⟩, ?_⟩
          · exact Eq.trans (b := [SpaceA p s, pt wb (.cells (List.toArray [.slice a1 w.bs.length c1, .slice a2 w.cs.length c2, .int .i64 (w64 (b.1 + dig h d)), .int .i64 ((d : Int) + 1)]) 115 (0, 0)), pt rb (.cells (List.toArray [.slice none 0 0, .slice none 0 0, .int .i64 0, .int .i64 0]) 115 (0, 0))]) rfl (by rw [← e3])
          · dsimp only; rw [show 4 - (d + 1) = k by omega]; exact hG
          · dsimp only; omega
    · have hx0 : x = 0 := by simpa using hx
      rw [if_pos hx0] at hG
      rw [hG.done]
      refine cut_exit rfl rfl ?_
      repeat' (first | refine zck ?_ | refine zcp (by kernel_rfl) ?_ | (refine zap rfl ?_; first | refine zan rfl ?_ | refine zab 1 rfl rfl rfl ?_ | refine zae 2 rfl rfl rfl rfl rfl rfl rfl ?_) | refine zch ?_)
      exact run_ret (leaves_nil (ends_take [0] rfl (ends_two rfl (resOk_pt 2 rfl rfl rfl) rfl ⟨rfl, [], rfl, rfl, rfl⟩)))
  · have hk : 4 - d = 0 := by omega
    rw [hk, Tr.splitK] at hG
    rw [hG.done]
    repeat (first | refine zck ?_ | refine zcl ?_ | refine zcm ?_ | refine zcn ?_)
    first | refine zcp (by kernel_rfl) ?_ | refine zcq PP_mixed (by kernel_rfl) (by kernel_rfl) ?_
    repeat' (refine zap rfl ?_; first | refine zak rfl ?_ | refine zan rfl ?_ | refine zab 1 rfl rfl rfl ?_ | refine zao rfl ?_ | refine zbh rfl rfl (by omega) ?_ | refine zbv rfl ?_)
    all_goals refine zch ?_
    all_goals repeat (first | refine zck ?_ | refine zcl ?_ | refine zcm ?_ | refine zcn ?_)
    refine zcj rfl ?_
    refine cut_exit rfl rfl ?_
    repeat' (first | refine zck ?_ | refine zcp (by kernel_rfl) ?_ | (refine zap rfl ?_; first | refine zan rfl ?_ | refine zab 1 rfl rfl rfl ?_ | refine zae 2 rfl rfl rfl rfl rfl rfl rfl ?_) | refine zch ?_)
    exact run_ret (leaves_nil (ends_take [0] rfl (ends_two rfl (resOk_pt 2 rfl rfl rfl) rfl ⟨rfl, [], rfl, rfl, rfl⟩)))
end Go.Proofs.YtloekplbhknepaaGreat.NM

namespace Go.Proofs.YtloekplbhknepaaGreat.NM
open Go.Vc Sim
set_option maxHeartbeats 4000000
theorem trPut1 (w0 : World) (p : Nat) (s : Sp) (m : Nat) (e : Int) (eb sb mb : Nat) :
    FnD PP w0 [] 98 [.pointer (some ⟨eb, 0, none⟩), .pointer (some ⟨sb, 0, none⟩), .pointer (some ⟨mb, 0, none⟩)]
    [SpaceA p s, celT eb (.int .i64 e) 69, celT mb (.int .i64 m) 3, celT sb (spP p) 73]
    fun v Γ' => v = .tuple #[] ∧ Γ' = [SpaceA p (if e ≠ 0 then s.back m else s), celT eb (.int .i64 e) 69, celT mb (.int .i64 m) 3, celT sb (spP p) 73] := by
  refine fnD_of_run en98 fn98 rfl rfl rfl ?_
 
  repeat' (first | refine zck ?_ | refine zcp (by kernel_rfl) ?_ | (refine zap rfl ?_; first | refine zab 1 rfl rfl rfl ?_ | refine zbp rfl rfl ?_) | refine zch ?_)
  refine run_cond rfl (fun hE => ?_) (fun hE => ?_)
  · repeat' (first | refine zcp (by kernel_rfl) ?_ | (refine zap rfl ?_; first | refine zab 2 rfl rfl rfl ?_ | refine zab 3 rfl rfl rfl ?_ | refine zah [0] (back_spec w0 p s m) rfl rfl rfl sub_nil rfl ?_) | refine zch ?_)
    refine run_nil ⟨rfl, ends_none rfl ?_⟩
    rw [if_pos hE]; exact ⟨rfl, rfl⟩
  · repeat' (first | refine zcm ?_ | (refine zap rfl ?_; first | refine zaj rfl ?_ | refine zak rfl ?_ | refine zal rfl ?_ | refine zam rfl rfl (fun _ => ?_) (fun _ => ?_)) | refine zch ?_)
    refine run_nil ⟨rfl, ends_none rfl ?_⟩
    rw [if_neg hE]; exact ⟨rfl, rfl⟩
def putD (eb sb mb : Nat) : Deferred := { target := .fn (.func 98) (List.toArray [.pointer (some ⟨eb, 0, none⟩), .pointer (some ⟨sb, 0, none⟩), .pointer (some ⟨mb, 0, none⟩)]), args := #[] }
theorem put_fin (w0 : World) (p eb sb mb : Nat) (m : Nat) (R : ((Int × Bool) × Int) × Sp) (was : Int) (had : Bool) (e : Int) (s : Sp) (ρ : Env) (h8 : ρ 8 = .int .i64 was) (h9 : ρ 9 = .bool had) (h10 : ρ 10 = .pointer (some ⟨eb, 0, none⟩)) (hG : At R (Tr.afterP m ((was, had), e)) s) :
    LeavesS PP w0 [] Tryz.f76 ρ [putD eb sb mb] [SpaceA p s, celT eb (.int .i64 e) 69, celT mb (.int .i64 m) 3, celT sb (spP p) 73] (fun v Γ => v = encPR R.1 ∧ Γ = [SpaceA p R.2]) := by
  refine leaves_defer1 [0, 0, 0, 0] (trPut1 w0 p s m e eb sb mb) rfl rfl sub_nil ?_
  refine leaves_nil (ends_take [0] rfl (ends_three rfl h8 h9 (resOk_pt 1 h10 rfl rfl) ?_))
  refine ⟨rfl, ?_⟩
  unfold Tr.afterP at hG
  by_cases hE : e ≠ 0
  · dsimp only at hG
    rw [if_pos hE] at hG
    rw [hG.step.2.done, if_pos hE]
    exact ⟨rfl, rfl⟩
  · dsimp only at hG
    rw [if_neg hE] at hG
    rw [hG.done, if_neg hE]
    exact ⟨rfl, rfl⟩
theorem trPut (w0 : World) (bt : Int) (p : Nat) (T : Tr) (hT : T.Ok) (hI : T.IsN bt) (hbt : 0 ≤ bt ∧ bt ≤ 255) (n v : Int) (hn : 100 ≤ n ∧ n ≤ 115) : FnG w0 [] 76 [trVN bt T, spP p, nmV (n - 3), .int .i64 v] p (T.put n (hsN bt n) v) encPR := by
  have hH := hsN_in bt n
  have hsp := nmHash w0 bt n hbt hn
  intro s hS
  have hG := At.start hS
  generalize Pg.run _ s = R at hG ⊢
  generalize hsN bt n = H at hH hsp hG
  simp only [Tr.put, Tr.putIn, Tr.newIn, Pg.bind_assoc, Pg.ite_bind, Pg.pure_bind] at hG
  refine fn_of_run en76 fn76 rfl rfl rfl ?_
  repeat (first | refine zck ?_ | refine zcl ?_ | refine zcm ?_ | refine zcn ?_)
  first | refine zcp (by kernel_rfl) ?_ | refine zcq PP_mixed (by kernel_rfl) (by kernel_rfl) ?_
  repeat' (refine zap rfl ?_; first | refine zan rfl ?_ | refine zaq (cs := [_]) rfl (fun nb => ?_) | refine zaq (cs := [_, _, _, _, _]) rfl (fun nb => ?_) | refine zar (fun nb => ?_))
  all_goals refine zch ?_
  all_goals repeat (first | refine zck ?_ | refine zcl ?_ | refine zcm ?_ | refine zcn ?_)
  rename_i tb sb kb
  revert nb; intro eb
  refine run_share [1] rfl ?_
  refine run_share [2] rfl ?_
  refine run_share_keep [1] rfl ?_
  repeat (first | refine zck ?_ | refine zcl ?_ | refine zcm ?_ | refine zcn ?_)
  first | refine zcp (by kernel_rfl) ?_ | refine zcq PP_mixed (by kernel_rfl) (by kernel_rfl) ?_
  repeat' (refine zap rfl ?_; first | refine zan rfl ?_ | refine zan rfl ?_ | refine zaa 1 rfl rfl rfl ?_ | refine zaa 2 rfl rfl rfl ?_ | refine reg_invokeE [] (nmNumN w0 bt n hn) rfl rfl rfl sub_nil rfl ?_ | refine zao rfl ?_ | refine zan rfl ?_)
  all_goals refine zch ?_
  all_goals repeat (first | refine zck ?_ | refine zcl ?_ | refine zcm ?_ | refine zcn ?_)
  repeat (first | refine zck ?_ | refine zcl ?_ | refine zcm ?_ | refine zcn ?_)
  first | refine zcp (by kernel_rfl) ?_ | refine zcq PP_mixed (by kernel_rfl) (by kernel_rfl) ?_
  repeat' (refine zap rfl ?_; first | refine zan rfl ?_ | refine zbx rfl ?_)
  all_goals refine zch ?_
  all_goals repeat (first | refine zck ?_ | refine zcl ?_ | refine zcm ?_ | refine zcn ?_)
  refine zcj rfl ?_
  repeat (first | refine zck ?_ | refine zcl ?_ | refine zcm ?_ | refine zcn ?_)
  first | refine zcp (by kernel_rfl) ?_ | refine zcq PP_mixed (by kernel_rfl) (by kernel_rfl) ?_
  repeat' (refine zap rfl ?_; first | refine zaa 0 rfl rfl rfl ?_ | refine reg_callG [0] hG (markG w0 p) rfl rfl rfl sub_nil (fun m s hG => ?_) | refine zae 2 rfl rfl rfl rfl rfl rfl rfl ?_ | refine zar (fun nb => ?_))
  all_goals refine zch ?_
  all_goals repeat (first | refine zck ?_ | refine zcl ?_ | refine zcm ?_ | refine zcn ?_)
  revert nb; intro mb
  refine run_share_keep [2] rfl ?_
  repeat (first | refine zck ?_ | refine zcl ?_ | refine zcm ?_ | refine zcn ?_)
  first | refine zcp (by kernel_rfl) ?_ | refine zcq PP_mixed (by kernel_rfl) (by kernel_rfl) ?_
  repeat' (refine zap rfl ?_; first | refine zan rfl ?_ | refine zcd rfl rfl ?_)
  all_goals refine zch ?_
  all_goals repeat (first | refine zck ?_ | refine zcl ?_ | refine zcm ?_ | refine zcn ?_)
  repeat (first | refine zck ?_ | refine zcl ?_ | refine zcm ?_ | refine zcn ?_)
  first | refine zcp (by kernel_rfl) ?_ | refine zcq PP_mixed (by kernel_rfl) (by kernel_rfl) ?_
  repeat' (refine zap rfl ?_; first | refine zan rfl ?_ | refine zaa 2 rfl rfl rfl ?_ | refine zaa 3 rfl rfl rfl ?_ | refine reg_invokeE [] hsp rfl rfl rfl sub_nil rfl ?_ | refine zao rfl ?_)
  all_goals refine zch ?_
  all_goals repeat (first | refine zck ?_ | refine zcl ?_ | refine zcm ?_ | refine zcn ?_)
  repeat (first | refine zck ?_ | refine zcl ?_ | refine zcm ?_ | refine zcn ?_)
  first | refine zcp (by kernel_rfl) ?_ | refine zcq PP_mixed (by kernel_rfl) (by kernel_rfl) ?_
  repeat' (refine zap rfl ?_; first | refine zan rfl ?_ | refine zan rfl ?_ | refine zaa 1 rfl rfl rfl ?_ | refine zaa 3 rfl rfl rfl ?_ | (refine reg_callX [0] hG (T.all_down hT _) (trDown w0 bt p T hT _ hH.1) rfl rfl rfl sub_nil ?_; rintro w s v' Γ1 hw ⟨a1, c1, a2, c2, rfl, rfl⟩ hG) | refine zan rfl ?_ | refine zae 4 rfl rfl rfl rfl rfl rfl rfl ?_ | refine zar (fun nb => ?_))
  all_goals refine zch ?_
  all_goals repeat (first | refine zck ?_ | refine zcl ?_ | refine zcm ?_ | refine zcn ?_)
  obtain ⟨w, ok⟩ := w
  dsimp only at hG hw
  refine run_take [0, 2, 2] rfl ?_
  cases ok with
  | false =>
    simp only [Bool.false_eq_true, if_false] at hG
    repeat' (first | refine zck ?_ | refine zcp (by kernel_rfl) ?_ | (refine zap rfl ?_; first | refine zan rfl ?_ | refine zan rfl ?_ | refine zbx rfl ?_ | refine zae 1 rfl rfl rfl rfl rfl rfl rfl ?_) | refine zch ?_ | refine zci rfl ?_)
    refine run_take [0, 0] rfl ?_
    exact run_ret (put_fin w0 p eb sb mb m R 0 false 24 s _ rfl rfl rfl hG)
  | true =>
    simp only [if_true] at hG
    repeat (first | refine zck ?_ | refine zcl ?_ | refine zcm ?_ | refine zcn ?_)
    first | refine zcp (by kernel_rfl) ?_ | refine zcq PP_mixed (by kernel_rfl) (by kernel_rfl) ?_
    repeat' (refine zap rfl ?_; first | refine zan rfl ?_ | refine zbx rfl ?_)
    all_goals refine zch ?_
    all_goals repeat (first | refine zck ?_ | refine zcl ?_ | refine zcm ?_ | refine zcn ?_)
    refine zcj rfl ?_
    repeat (first | refine zck ?_ | refine zcl ?_ | refine zcm ?_ | refine zcn ?_)
    first | refine zcp (by kernel_rfl) ?_ | refine zcq PP_mixed (by kernel_rfl) (by kernel_rfl) ?_
    repeat' (refine zap rfl ?_; first | refine zan rfl ?_ | refine zan rfl ?_ | refine zaa 1 rfl rfl rfl ?_ | refine zaa 3 rfl rfl rfl ?_ | refine zab 2 rfl rfl rfl ?_ | (refine reg_callGP [0] hG (T.all_leaf w hw n) (trLeaf w0 bt p T hT w hw a1 c1 a2 c2 n) rfl rfl rfl sub_nil (fun l s hl hG => ?_)) | refine zan rfl ?_)
    all_goals refine zch ?_
    all_goals repeat (first | refine zck ?_ | refine zcl ?_ | refine zcm ?_ | refine zcn ?_)
    obtain ⟨⟨c, a⟩, ok⟩ := l
    obtain ⟨hk1, hk2, hk3, hk4⟩ := id hl
    obtain ⟨hl1, hl2, hl3, hl4⟩ := hl
    dsimp only at hG hl1 hl2 hl3 hl4
    cases ok with
    | false =>
      simp only [Bool.false_eq_true, if_false] at hG
      repeat' (first | refine zck ?_ | refine zcp (by kernel_rfl) ?_ | (refine zap rfl ?_; first | refine zan rfl ?_ | refine zan rfl ?_ | refine zbx rfl ?_ | refine zae 1 rfl rfl rfl rfl rfl rfl rfl ?_) | refine zch ?_ | refine zci rfl ?_)
      refine run_take [0, 0] rfl ?_
      exact run_ret (put_fin w0 p eb sb mb m R 0 false 24 s _ rfl rfl rfl hG)
    | true =>
      simp only [if_true] at hG
      repeat (first | refine zck ?_ | refine zcl ?_ | refine zcm ?_ | refine zcn ?_)
      first | refine zcp (by kernel_rfl) ?_ | refine zcq PP_mixed (by kernel_rfl) (by kernel_rfl) ?_
      repeat' (refine zap rfl ?_; first | refine zan rfl ?_ | refine zbx rfl ?_)
      all_goals refine zch ?_
      all_goals repeat (first | refine zck ?_ | refine zcl ?_ | refine zcm ?_ | refine zcn ?_)
      refine zcj rfl ?_
      by_cases ha : a = 0
      · rw [if_pos ha] at hG
        repeat (first | refine zck ?_ | refine zcl ?_ | refine zcm ?_ | refine zcn ?_)
        first | refine zcp (by kernel_rfl) ?_ | refine zcq PP_mixed (by kernel_rfl) (by kernel_rfl) ?_
        repeat' (refine zap rfl ?_; first | refine zan rfl ?_ | refine zbf rfl rfl (by omega) ?_)
        all_goals refine zch ?_
        all_goals repeat (first | refine zck ?_ | refine zcl ?_ | refine zcm ?_ | refine zcn ?_)
        refine zcj rfl ?_
        repeat (first | refine zck ?_ | refine zcl ?_ | refine zcm ?_ | refine zcn ?_)
        first | refine zcp (by kernel_rfl) ?_ | refine zcq PP_mixed (by kernel_rfl) (by kernel_rfl) ?_
        repeat' (refine zap rfl ?_; first | refine zan rfl ?_ | refine zaa 1 rfl rfl rfl ?_ | refine zaa 3 rfl rfl rfl ?_ | refine zab 2 rfl rfl rfl ?_ | (refine reg_callX [0] hG (Pg.all_triv _) (trSplit w0 bt p T hT hI hbt w hw.2.2.1 a1 c1 a2 c2 H hH.1) rfl rfl rfl sub_nil ?_; rintro ⟨w2, e2⟩ s v' Γ1 _ ⟨rfl, rfl⟩ hG) | refine zan rfl ?_ | refine zae 1 rfl rfl rfl rfl rfl rfl rfl ?_ | refine zae 2 rfl rfl rfl rfl rfl rfl rfl ?_)
        all_goals refine zch ?_
        all_goals repeat (first | refine zck ?_ | refine zcl ?_ | refine zcm ?_ | refine zcn ?_)
        dsimp only at hG
        repeat (first | refine zck ?_ | refine zcl ?_ | refine zcm ?_ | refine zcn ?_)
        first | refine zcp (by kernel_rfl) ?_ | refine zcq PP_mixed (by kernel_rfl) (by kernel_rfl) ?_
        repeat' (refine zap rfl ?_; first | refine zab 1 rfl rfl rfl ?_ | refine zbp rfl rfl ?_)
        all_goals refine zch ?_
        all_goals repeat (first | refine zck ?_ | refine zcl ?_ | refine zcm ?_ | refine zcn ?_)
        refine run_cond rfl (fun hE => ?_) (fun hE => ?_)
        · rw [if_pos hE] at hG
          repeat (first | refine zck ?_ | refine zcl ?_ | refine zcm ?_ | refine zcn ?_)
          first | refine zcp (by kernel_rfl) ?_ | refine zcr [(.read, 0), (.quiet, 1), (.quiet, 2), (.loud, 3)] PP_mixed (by kernel_rfl) (by kernel_rfl) ?_ | refine run_drawR PP_mixed (by kernel_rfl) (by kernel_rfl) ?_
          repeat' (refine zap rfl ?_; first | refine zan rfl ?_ | refine zab 1 rfl rfl rfl ?_ | refine zae 1 rfl rfl rfl rfl rfl rfl rfl ?_)
          all_goals refine zch ?_
          all_goals repeat (first | refine zck ?_ | refine zcl ?_ | refine zcm ?_ | refine zcn ?_)
          refine run_take [0, 0] rfl ?_
          exact run_ret (put_fin w0 p eb sb mb m R 0 false e2 s _ rfl rfl rfl hG)
        · rw [if_neg hE] at hG
          repeat (first | refine zck ?_ | refine zcl ?_ | refine zcm ?_ | refine zcn ?_)
          first | refine zcp (by kernel_rfl) ?_ | refine zcr [(.quiet, 0), (.quiet, 1), (.quiet, 2), (.quiet, 3), (.read, 4), (.quiet, 5), (.read, 6), (.loud, 7), (.loud, 8), (.loud, 9), (.quiet, 10), (.quiet, 11), (.quiet, 12), (.quiet, 13), (.loud, 14)] PP_mixed (by kernel_rfl) (by kernel_rfl) ?_ | refine run_drawR PP_mixed (by kernel_rfl) (by kernel_rfl) ?_
          repeat' (refine zap rfl ?_; first | refine reg_buildSlice rfl rfl rfl rfl rfl rfl (fun lb => ?_) | refine zan rfl ?_ | refine zan rfl ?_ | refine zaa 1 rfl rfl rfl ?_ | refine zaa 3 rfl rfl rfl ?_ | refine zab 2 rfl rfl rfl ?_ | refine reg_callG [0] hG (getG w0 p _) rfl rfl rfl sub_nil (fun x s hG => ?_) | (refine reg_callX [0, 2] hG (Pg.all_triv _) (trTake w0 bt p _ T hT [n, v, x] (Nat.le_of_ble_eq_true rfl)) rfl rfl rfl sub_nil ?_; rintro b s v' Γ1 _ ⟨rfl, rfl⟩ hG) | refine zao rfl ?_ | refine zan rfl ?_ | refine zae 1 rfl rfl rfl rfl rfl rfl rfl ?_)
          all_goals refine zch ?_
          all_goals repeat (first | refine zck ?_ | refine zcl ?_ | refine zcm ?_ | refine zcn ?_)
          repeat (first | refine zck ?_ | refine zcl ?_ | refine zcm ?_ | refine zcn ?_)
          first | refine zcp (by kernel_rfl) ?_ | refine zcq PP_mixed (by kernel_rfl) (by kernel_rfl) ?_
          repeat' (refine zap rfl ?_; first | refine zab 1 rfl rfl rfl ?_ | refine zbp rfl rfl ?_)
          all_goals refine zch ?_
          all_goals repeat (first | refine zck ?_ | refine zcl ?_ | refine zcm ?_ | refine zcn ?_)
          refine run_cond rfl (fun hE => ?_) (fun hE => ?_)
          · rw [if_pos hE] at hG
            repeat (first | refine zck ?_ | refine zcl ?_ | refine zcm ?_ | refine zcn ?_)
            first | refine zcp (by kernel_rfl) ?_ | refine zcr [(.read, 0), (.quiet, 1), (.quiet, 2), (.loud, 3)] PP_mixed (by kernel_rfl) (by kernel_rfl) ?_ | refine run_drawR PP_mixed (by kernel_rfl) (by kernel_rfl) ?_
            repeat' (refine zap rfl ?_; first | refine zan rfl ?_ | refine zab 1 rfl rfl rfl ?_ | refine zae 1 rfl rfl rfl rfl rfl rfl rfl ?_)
            all_goals refine zch ?_
            all_goals repeat (first | refine zck ?_ | refine zcl ?_ | refine zcm ?_ | refine zcn ?_)
            refine run_take [0, 0] rfl ?_
            exact run_ret (put_fin w0 p eb sb mb m R 0 false b.2 s _ rfl rfl rfl hG)
          · rw [if_neg hE] at hG
            repeat' (first | refine zck ?_ | refine zcp (by kernel_rfl) ?_ | refine zcm ?_ | (refine zap rfl ?_; first | refine zan rfl ?_ | refine zan rfl ?_ | refine zaa 1 rfl rfl rfl ?_ | refine zaa 3 rfl rfl rfl ?_ | refine zab 2 rfl rfl rfl ?_ | refine reg_callG [0] hG (putG w0 p _ _) rfl rfl rfl sub_nil (fun u s hG => ?_) | refine reg_callG [0] hG (trAdd w0 bt p T hT _ _ (by decide)) rfl rfl rfl sub_nil (fun u s hG => ?_) | refine zao rfl ?_ | refine zae 1 rfl rfl rfl rfl rfl rfl rfl ?_) | refine zch ?_)
            refine run_take [0, 0] rfl ?_
            exact run_ret (put_fin w0 p eb sb mb m R 0 false 0 s _ rfl rfl rfl hG)
      · rw [if_neg ha] at hG
        repeat' (first | refine zck ?_ | refine zcp (by kernel_rfl) ?_ | refine zcm ?_ | (refine zap rfl ?_; first | refine zan rfl ?_ | refine zan rfl ?_ | refine zaa 1 rfl rfl rfl ?_ | refine reg_callG [0] hG (getG w0 p _) rfl rfl rfl sub_nil (fun x s hG => ?_) | refine reg_callG [0] hG (putG w0 p _ _) rfl rfl rfl sub_nil (fun u s hG => ?_) | refine zbe rfl rfl (by omega) ?_ | refine zau rfl rfl (by omega) ?_ | refine zae 1 rfl rfl rfl rfl rfl rfl rfl ?_) | refine zch ?_ | refine zci rfl ?_)
        refine run_take [0, 0] rfl ?_
        exact run_ret (put_fin w0 p eb sb mb m R x true 0 s _ rfl rfl rfl hG)
end Go.Proofs.YtloekplbhknepaaGreat.NM

namespace Go.Proofs.YtloekplbhknepaaGreat.NM
open Go.Vc Sim
set_option maxHeartbeats 4000000
theorem trDrop1 (w0 : World) (p : Nat) (s : Sp) (m : Nat) (e was : Int) (had : Bool) (eb sb mb xb yb : Nat) :
    FnD PP w0 [] 94 [.pointer (some ⟨eb, 0, none⟩), .pointer (some ⟨sb, 0, none⟩), .pointer (some ⟨mb, 0, none⟩), .pointer (some ⟨xb, 0, none⟩), .pointer (some ⟨yb, 0, none⟩)]
    [SpaceA p s, celT xb (.int .i64 was) 2, celT yb (.bool had) 4, celT eb (.int .i64 e) 69, celT mb (.int .i64 m) 3, celT sb (spP p) 73]
    fun v Γ' => v = .tuple #[] ∧ Γ' = [SpaceA p (if e ≠ 0 then s.back m else s), celT xb (.int .i64 (if e ≠ 0 then 0 else was)) 2, celT yb (.bool (if e ≠ 0 then false else had)) 4, celT eb (.int .i64 e) 69, celT mb (.int .i64 m) 3, celT sb (spP p) 73] := by
  refine fnD_of_run en94 fn94 rfl rfl rfl ?_
 
  repeat' (first | refine zck ?_ | refine zcp (by kernel_rfl) ?_ | (refine zap rfl ?_; first | refine zab 3 rfl rfl rfl ?_ | refine zbp rfl rfl ?_) | refine zch ?_)
  refine run_cond rfl (fun hE => ?_) (fun hE => ?_)
  · repeat' (first | refine zck ?_ | refine zcp (by kernel_rfl) ?_ | (refine zap rfl ?_; first | refine zab 4 rfl rfl rfl ?_ | refine zab 5 rfl rfl rfl ?_ | refine zah [0] (back_spec w0 p s m) rfl rfl rfl sub_nil rfl ?_ | refine zae 1 rfl rfl rfl rfl rfl rfl rfl ?_ | refine zae 2 rfl rfl rfl rfl rfl rfl rfl ?_) | refine zch ?_)
    refine run_nil ⟨rfl, ends_none rfl ?_⟩
    rw [if_pos hE, if_pos hE, if_pos hE]; exact ⟨rfl, rfl⟩
  · repeat' (first | refine zcm ?_ | (refine zap rfl ?_; first | refine zaj rfl ?_ | refine zak rfl ?_ | refine zal rfl ?_ | refine zam rfl rfl (fun _ => ?_) (fun _ => ?_)) | refine zch ?_)
    refine run_nil ⟨rfl, ends_none rfl ?_⟩
    rw [if_neg hE, if_neg hE, if_neg hE]; exact ⟨rfl, rfl⟩
def dropD (eb sb mb xb yb : Nat) : Deferred := { target := .fn (.func 94) (List.toArray [.pointer (some ⟨eb, 0, none⟩), .pointer (some ⟨sb, 0, none⟩), .pointer (some ⟨mb, 0, none⟩), .pointer (some ⟨xb, 0, none⟩), .pointer (some ⟨yb, 0, none⟩)]), args := #[] }
theorem drop_fin (w0 : World) (p eb sb mb xb yb : Nat) (m : Nat) (R : ((Int × Bool) × Int) × Sp) (was : Int) (had : Bool) (e : Int) (s : Sp) (ρ : Env) (h6 : ρ 6 = .pointer (some ⟨xb, 0, none⟩)) (h7 : ρ 7 = .pointer (some ⟨yb, 0, none⟩)) (h8 : ρ 8 = .pointer (some ⟨eb, 0, none⟩)) (hG : At R (Tr.afterD m ((was, had), e)) s) :
    LeavesS PP w0 [] Tryz.f75 ρ [dropD eb sb mb xb yb] [SpaceA p s, celT xb (.int .i64 was) 2, celT yb (.bool had) 4, celT eb (.int .i64 e) 69, celT mb (.int .i64 m) 3, celT sb (spP p) 73] (fun v Γ => v = encPR R.1 ∧ Γ = [SpaceA p R.2]) := by
  refine leaves_defer1 [0, 0, 0, 0, 0, 0] (trDrop1 w0 p s m e was had eb sb mb xb yb) rfl rfl sub_nil ?_
  refine leaves_nil (ends_take [0] rfl (ends_three rfl (resOk_pt 1 h6 rfl rfl) (resOk_pt 2 h7 rfl rfl) (resOk_pt 3 h8 rfl rfl) ?_))
  refine ⟨rfl, ?_⟩
  unfold Tr.afterD at hG
  by_cases hE : e ≠ 0
  · dsimp only at hG
    rw [if_pos hE] at hG
    rw [hG.step.2.done, if_pos hE, if_pos hE, if_pos hE]
    exact ⟨rfl, rfl⟩
  · dsimp only at hG
    rw [if_neg hE] at hG
    rw [hG.done, if_neg hE, if_neg hE, if_neg hE]
    exact ⟨rfl, rfl⟩
theorem trDrop (w0 : World) (bt : Int) (p : Nat) (T : Tr) (hT : T.Ok) (hbt : 0 ≤ bt ∧ bt ≤ 255) (n : Int) (hn : 100 ≤ n ∧ n ≤ 115) : FnG w0 [] 75 [trVN bt T, spP p, nmV (n - 3)] p (T.drop n (hsN bt n)) encPR := by
  have hH := hsN_in bt n
  have hsp := nmHash w0 bt n hbt hn
  intro s hS
  have hG := At.start hS
  generalize Pg.run _ s = R at hG ⊢
  generalize hsN bt n = H at hH hsp hG
  simp only [Tr.drop, Tr.dropIn, Tr.dropAt, Pg.bind_assoc, Pg.ite_bind, Pg.pure_bind] at hG
  refine fn_of_run en75 fn75 rfl rfl rfl ?_
  repeat (first | refine zck ?_ | refine zcl ?_ | refine zcm ?_ | refine zcn ?_)
  first | refine zcp (by kernel_rfl) ?_ | refine zcq PP_mixed (by kernel_rfl) (by kernel_rfl) ?_
  repeat' (refine zap rfl ?_; first | refine zaq (cs := [_]) rfl (fun nb => ?_) | refine zaq (cs := [_, _, _, _, _]) rfl (fun nb => ?_) | refine zar (fun nb => ?_))
  all_goals refine zch ?_
  all_goals repeat (first | refine zck ?_ | refine zcl ?_ | refine zcm ?_ | refine zcn ?_)
  rename_i tb sb kb xb yb
  revert nb; intro eb
  refine run_share [1] rfl ?_
  refine run_share [2] rfl ?_
  refine run_share_keep [1] rfl ?_
  repeat (first | refine zck ?_ | refine zcl ?_ | refine zcm ?_ | refine zcn ?_)
  first | refine zcp (by kernel_rfl) ?_ | refine zcq PP_mixed (by kernel_rfl) (by kernel_rfl) ?_
  repeat' (refine zap rfl ?_; first | refine zan rfl ?_ | refine zan rfl ?_ | refine zaa 1 rfl rfl rfl ?_ | refine zaa 2 rfl rfl rfl ?_ | refine reg_invokeE [] (nmNumN w0 bt n hn) rfl rfl rfl sub_nil rfl ?_ | refine zao rfl ?_ | refine zan rfl ?_)
  all_goals refine zch ?_
  all_goals repeat (first | refine zck ?_ | refine zcl ?_ | refine zcm ?_ | refine zcn ?_)
  repeat (first | refine zck ?_ | refine zcl ?_ | refine zcm ?_ | refine zcn ?_)
  first | refine zcp (by kernel_rfl) ?_ | refine zcq PP_mixed (by kernel_rfl) (by kernel_rfl) ?_
  repeat' (refine zap rfl ?_; first | refine zan rfl ?_ | refine zbx rfl ?_)
  all_goals refine zch ?_
  all_goals repeat (first | refine zck ?_ | refine zcl ?_ | refine zcm ?_ | refine zcn ?_)
  refine zcj rfl ?_
  repeat (first | refine zck ?_ | refine zcl ?_ | refine zcm ?_ | refine zcn ?_)
  first | refine zcp (by kernel_rfl) ?_ | refine zcq PP_mixed (by kernel_rfl) (by kernel_rfl) ?_
  repeat' (refine zap rfl ?_; first | refine zaa 0 rfl rfl rfl ?_ | refine reg_callG [0] hG (markG w0 p) rfl rfl rfl sub_nil (fun m s hG => ?_) | refine zae 4 rfl rfl rfl rfl rfl rfl rfl ?_ | refine zar (fun nb => ?_))
  all_goals refine zch ?_
  all_goals repeat (first | refine zck ?_ | refine zcl ?_ | refine zcm ?_ | refine zcn ?_)
  revert nb; intro mb
  refine run_share_keep [4] rfl ?_
  repeat (first | refine zck ?_ | refine zcl ?_ | refine zcm ?_ | refine zcn ?_)
  first | refine zcp (by kernel_rfl) ?_ | refine zcq PP_mixed (by kernel_rfl) (by kernel_rfl) ?_
  repeat' (refine zap rfl ?_; first | refine zan rfl ?_ | refine zcd rfl rfl ?_)
  all_goals refine zch ?_
  all_goals repeat (first | refine zck ?_ | refine zcl ?_ | refine zcm ?_ | refine zcn ?_)
  repeat (first | refine zck ?_ | refine zcl ?_ | refine zcm ?_ | refine zcn ?_)
  first | refine zcp (by kernel_rfl) ?_ | refine zcq PP_mixed (by kernel_rfl) (by kernel_rfl) ?_
  repeat' (refine zap rfl ?_; first | refine zae 6 rfl rfl rfl rfl rfl rfl rfl ?_ | refine zan rfl ?_ | refine zan rfl ?_ | refine zaa 1 rfl rfl rfl ?_ | refine zaa 2 rfl rfl rfl ?_ | refine zaa 3 rfl rfl rfl ?_ | refine reg_invokeE [] hsp rfl rfl rfl sub_nil rfl ?_ | (refine reg_callX [0] hG (T.all_down hT _) (trDown w0 bt p T hT _ hH.1) rfl rfl rfl sub_nil ?_; rintro ⟨w, ok⟩ s v' Γ1 hw hwr hG; obtain ⟨a1, c1, a2, c2, rfl, rfl⟩ := (show ∃ a1 c1 a2 c2, v' = .tuple #[wayV a1 c1 a2 c2 w, .bool ok] ∧ Γ1 = WayA a1 c1 a2 c2 w from hwr)) | refine zao rfl ?_ | refine zan rfl ?_ | refine zar (fun nb => ?_))
  all_goals refine zch ?_
  all_goals repeat (first | refine zck ?_ | refine zcl ?_ | refine zcm ?_ | refine zcn ?_)
  dsimp only at hG hw
  revert nb; intro wb
  refine run_take [0, 5, 2, 2, 2, 0, 0] rfl ?_
  refine run_share [1] rfl ?_
  cases ok with
  | false =>
    simp only [Bool.false_eq_true, if_false] at hG
    repeat' (first | refine zck ?_ | refine zcp (by kernel_rfl) ?_ | (refine zap rfl ?_; first | refine zan rfl ?_ | refine zbx rfl ?_ | refine zae 1 rfl rfl rfl rfl rfl rfl rfl ?_ | refine zae 2 rfl rfl rfl rfl rfl rfl rfl ?_ | refine zae 3 rfl rfl rfl rfl rfl rfl rfl ?_) | refine zch ?_ | refine zci rfl ?_)
    refine run_take [0, 0, 0, 0] rfl ?_
    exact run_ret (drop_fin w0 p eb sb mb xb yb m R 0 false 24 s _ rfl rfl rfl hG)
  | true =>
    simp only [if_true] at hG
    repeat (first | refine zck ?_ | refine zcl ?_ | refine zcm ?_ | refine zcn ?_)
    first | refine zcp (by kernel_rfl) ?_ | refine zcq PP_mixed (by kernel_rfl) (by kernel_rfl) ?_
    repeat' (refine zap rfl ?_; first | refine zan rfl ?_ | refine zbx rfl ?_)
    all_goals refine zch ?_
    all_goals repeat (first | refine zck ?_ | refine zcl ?_ | refine zcm ?_ | refine zcn ?_)
    refine zcj rfl ?_
    repeat (first | refine zck ?_ | refine zcl ?_ | refine zcm ?_ | refine zcn ?_)
    first | refine zcp (by kernel_rfl) ?_ | refine zcq PP_mixed (by kernel_rfl) (by kernel_rfl) ?_
    repeat' (refine zap rfl ?_; first | refine zan rfl ?_ | refine zan rfl ?_ | refine zaa 0 rfl rfl rfl ?_ | refine zaa 2 rfl rfl rfl ?_ | refine zaa 4 rfl rfl rfl ?_ | (refine reg_callGP [0] hG (T.all_leaf w hw n) (trLeaf w0 bt p T hT w hw a1 c1 a2 c2 n) rfl rfl rfl sub_nil (fun l s hl hG => ?_)) | refine zan rfl ?_)
    all_goals refine zch ?_
    all_goals repeat (first | refine zck ?_ | refine zcl ?_ | refine zcm ?_ | refine zcn ?_)
    obtain ⟨⟨c, a⟩, ok⟩ := l
    obtain ⟨hk1, hk2, hk3, hk4⟩ := id hl
    obtain ⟨hl1, hl2, hl3, hl4⟩ := hl
    dsimp only at hG hl1 hl2 hl3 hl4
    cases ok with
    | false =>
      simp only [Bool.false_eq_true, if_false] at hG
      repeat' (first | refine zck ?_ | refine zcp (by kernel_rfl) ?_ | (refine zap rfl ?_; first | refine zan rfl ?_ | refine zbx rfl ?_ | refine zae 1 rfl rfl rfl rfl rfl rfl rfl ?_ | refine zae 2 rfl rfl rfl rfl rfl rfl rfl ?_ | refine zae 3 rfl rfl rfl rfl rfl rfl rfl ?_) | refine zch ?_ | refine zci rfl ?_)
      refine run_take [0, 0, 0, 0] rfl ?_
      exact run_ret (drop_fin w0 p eb sb mb xb yb m R 0 false 24 s _ rfl rfl rfl hG)
    | true =>
      simp only [if_true] at hG
      repeat (first | refine zck ?_ | refine zcl ?_ | refine zcm ?_ | refine zcn ?_)
      first | refine zcp (by kernel_rfl) ?_ | refine zcq PP_mixed (by kernel_rfl) (by kernel_rfl) ?_
      repeat' (refine zap rfl ?_; first | refine zan rfl ?_ | refine zbx rfl ?_)
      all_goals refine zch ?_
      all_goals repeat (first | refine zck ?_ | refine zcl ?_ | refine zcm ?_ | refine zcn ?_)
      refine zcj rfl ?_
      by_cases ha : a = 0
      · rw [if_pos ha] at hG
        repeat' (first | refine zck ?_ | refine zcp (by kernel_rfl) ?_ | refine zcm ?_ | (refine zap rfl ?_; first | refine zan rfl ?_ | refine zbc rfl rfl (by omega) ?_ | refine zae 1 rfl rfl rfl rfl rfl rfl rfl ?_ | refine zae 2 rfl rfl rfl rfl rfl rfl rfl ?_ | refine zae 3 rfl rfl rfl rfl rfl rfl rfl ?_) | refine zch ?_ | refine zci rfl ?_)
        refine run_take [0, 0, 0, 0] rfl ?_
        exact run_ret (drop_fin w0 p eb sb mb xb yb m R 0 false 0 s _ rfl rfl rfl hG)
      · rw [if_neg ha] at hG
        repeat (first | refine zck ?_ | refine zcl ?_ | refine zcm ?_ | refine zcn ?_)
        first | refine zcp (by kernel_rfl) ?_ | refine zcq PP_mixed (by kernel_rfl) (by kernel_rfl) ?_
        repeat' (refine zap rfl ?_; first | refine zan rfl ?_ | refine zbd rfl rfl (by omega) ?_)
        all_goals refine zch ?_
        all_goals repeat (first | refine zck ?_ | refine zcl ?_ | refine zcm ?_ | refine zcn ?_)
        refine zcj rfl ?_
        repeat (first | refine zck ?_ | refine zcl ?_ | refine zcm ?_ | refine zcn ?_)
        first | refine zcp (by kernel_rfl) ?_ | refine zcq PP_mixed (by kernel_rfl) (by kernel_rfl) ?_
        repeat' (refine zap rfl ?_; first | refine zan rfl ?_ | refine zaa 2 rfl rfl rfl ?_ | refine reg_callG [0] hG (getG w0 p _) rfl rfl rfl sub_nil (fun was s hG => ?_) | refine zau rfl rfl (by omega) ?_ | refine zae 1 rfl rfl rfl rfl rfl rfl rfl ?_)
        all_goals refine zch ?_
        all_goals repeat (first | refine zck ?_ | refine zcl ?_ | refine zcm ?_ | refine zcn ?_)
        repeat (first | refine zck ?_ | refine zcl ?_ | refine zcm ?_ | refine zcn ?_)
        first | refine zcp (by kernel_rfl) ?_ | refine zcq PP_mixed (by kernel_rfl) (by kernel_rfl) ?_
        repeat' (refine zap rfl ?_; first | refine zan rfl ?_ | refine zaa 2 rfl rfl rfl ?_ | refine reg_callG [0] hG (getG w0 p _) rfl rfl rfl sub_nil (fun x s hG => ?_) | refine reg_callG [0] hG (putG w0 p _ _) rfl rfl rfl sub_nil (fun u s hG => ?_) | refine zau rfl rfl (by omega) ?_)
        all_goals refine zch ?_
        all_goals repeat (first | refine zck ?_ | refine zcl ?_ | refine zcm ?_ | refine zcn ?_)
        repeat (first | refine zck ?_ | refine zcl ?_ | refine zcm ?_ | refine zcn ?_)
        first | refine zcp (by kernel_rfl) ?_ | refine zcq PP_mixed (by kernel_rfl) (by kernel_rfl) ?_
        repeat' (refine zap rfl ?_; first | refine zan rfl ?_ | refine zaa 2 rfl rfl rfl ?_ | refine zaa 4 rfl rfl rfl ?_ | refine reg_callG [0] hG (trGive w0 bt p T hT _) rfl rfl rfl sub_nil (fun e s hG => ?_) | refine zae 3 rfl rfl rfl rfl rfl rfl rfl ?_)
        all_goals refine zch ?_
        all_goals repeat (first | refine zck ?_ | refine zcl ?_ | refine zcm ?_ | refine zcn ?_)
        repeat (first | refine zck ?_ | refine zcl ?_ | refine zcm ?_ | refine zcn ?_)
        first | refine zcp (by kernel_rfl) ?_ | refine zcq PP_mixed (by kernel_rfl) (by kernel_rfl) ?_
        repeat' (refine zap rfl ?_; first | refine zab 3 rfl rfl rfl ?_ | refine zbp rfl rfl ?_)
        all_goals refine zch ?_
        all_goals repeat (first | refine zck ?_ | refine zcl ?_ | refine zcm ?_ | refine zcn ?_)
        refine run_cond rfl (fun hE => ?_) (fun hE => ?_)
        · rw [if_pos hE] at hG
          repeat (first | refine zck ?_ | refine zcl ?_ | refine zcm ?_ | refine zcn ?_)
          refine run_drawT [3] [(.quiet, 0), (.loud, 1), (.loud, 2)] [(.loud, 3)] PP_mixed (by kernel_rfl) (by kernel_rfl) rfl ?_
          repeat' (refine zap rfl ?_; first | refine zaa 0 rfl rfl rfl ?_ | refine zae 1 rfl rfl rfl rfl rfl rfl rfl ?_ | refine zae 2 rfl rfl rfl rfl rfl rfl rfl ?_)
          all_goals refine reg_turn ?_
          all_goals repeat' (refine zap rfl ?_; first | refine zae 0 rfl rfl rfl rfl rfl rfl rfl ?_)
          all_goals refine zch ?_
          all_goals repeat (first | refine zck ?_ | refine zcl ?_ | refine zcm ?_ | refine zcn ?_)
          refine run_take [1, 1, 1, 0] rfl ?_
          exact run_ret (drop_fin w0 p eb sb mb xb yb m R 0 false e s _ rfl rfl rfl hG)
        · rw [if_neg hE] at hG
          have he : e = 0 := by omega
          subst he
          refine run_slots [(3, .pointer (some ⟨tb, 0, none⟩)), (4, .pointer (some ⟨sb, 0, none⟩)), (6, .pointer (some ⟨xb, 0, none⟩)), (7, .pointer (some ⟨yb, 0, none⟩)), (8, .pointer (some ⟨eb, 0, none⟩)), (12, .pointer (some ⟨wb, 0, none⟩))] ⟨rfl, rfl, rfl, rfl, rfl, rfl, trivial⟩ (fun junk => ?_)
          refine run_exch 1 (celT xb (.int .i64 was) 2) rfl (fun _ h => h) rfl ?_
          refine run_exch 2 (celT yb (.bool false) 4) rfl (fun _ h => h) rfl ?_
          refine run_exch 3 (celT eb (.int .i64 0) 69) rfl (fun _ h => h) rfl ?_
          obtain ⟨hw1, hw2, hw3, hw4, hw5, hw6⟩ := id hw
          repeat (first | refine zck ?_ | refine zcl ?_ | refine zcm ?_ | refine zcn ?_)
          first | refine zcp (by kernel_rfl) ?_ | refine zcq PP_mixed (by kernel_rfl) (by kernel_rfl) ?_
          repeat' (refine zap rfl ?_; first | refine zaa 2 rfl rfl rfl ?_ | refine zaa 4 rfl rfl rfl ?_ | refine reg_callG [0] hG (trAdd w0 bt p T hT _ _ (by decide)) rfl rfl rfl sub_nil (fun u s hG => ?_))
          all_goals refine zch ?_
          all_goals repeat (first | refine zck ?_ | refine zcl ?_ | refine zcm ?_ | refine zcn ?_)
          repeat (first | refine zck ?_ | refine zcl ?_ | refine zcm ?_ | refine zcn ?_)
          first | refine zcp (by kernel_rfl) ?_ | refine zcq PP_mixed (by kernel_rfl) (by kernel_rfl) ?_
          repeat' (refine zap rfl ?_; first | refine zan rfl ?_ | refine zaa 0 rfl rfl rfl ?_ | refine zce rfl ?_ | refine zao rfl ?_ | refine zav rfl rfl (by omega) ?_)
          all_goals refine zch ?_
          all_goals repeat (first | refine zck ?_ | refine zcl ?_ | refine zcm ?_ | refine zcn ?_)
          have hL : (w.bs.zip w.cs).reverse = ((w.bs.take w.bs.length).zip (w.cs.take w.bs.length)).reverse := by rw [List.take_length, show w.bs.length = w.cs.length by omega, List.take_length]
          rw [hL] at hG
          refine run_loop (S := Nat × Sp) (fun st => [(3, .pointer (some ⟨tb, 0, none⟩)), (4, .pointer (some ⟨sb, 0, none⟩)), (6, .pointer (some ⟨xb, 0, none⟩)), (7, .pointer (some ⟨yb, 0, none⟩)), (8, .pointer (some ⟨eb, 0, none⟩)), (12, .pointer (some ⟨wb, 0, none⟩)), (15, .int .i64 ((st.1 : Int) - 1))])
            (fun st Γ => Γ = [SpaceA p st.2, celT xb (.int .i64 was) 2, celT yb (.bool false) 4, celT eb (.int .i64 0) 69, SlA 28 1 a1 w.bs.length c1 (intsV w.bs), SlA 28 1 a2 w.cs.length c2 (intsV w.cs)] ∧ At R (T.fold was ((w.bs.take st.1).zip (w.cs.take st.1)).reverse >>= fun r => Tr.afterD m r) st.2 ∧ st.1 ≤ w.bs.length)
            (fun st => st.1) (w.bs.length, s) ⟨rfl, rfl, rfl, rfl, rfl, rfl, rfl, trivial⟩ ⟨rfl, hG, Nat.le_refl _⟩ ?_
          rintro ⟨j, s⟩ Γ junk ⟨rfl, hG, hj⟩
          dsimp only at hG hj ⊢
          cases j with
          | zero =>
            simp only [List.take_zero, List.zip_nil_left, List.reverse_nil, Tr.fold, Pg.pure_bind] at hG
            repeat (first | refine zck ?_ | refine zcl ?_ | refine zcm ?_ | refine zcn ?_)
            first | refine zcp (by kernel_rfl) ?_ | refine zcq PP_mixed (by kernel_rfl) (by kernel_rfl) ?_
            repeat' (refine zap rfl ?_; first | refine zan rfl ?_ | refine zbn rfl rfl (by omega) ?_)
            all_goals refine zch ?_
            all_goals repeat (first | refine zck ?_ | refine zcl ?_ | refine zcm ?_ | refine zcn ?_)
            refine zcj rfl ?_
            refine cut_exit rfl rfl ?_
            repeat' (first | refine zck ?_ | refine zcp (by kernel_rfl) ?_ | (refine zap rfl ?_; first | refine zab 1 rfl rfl rfl ?_ | refine zae 1 rfl rfl rfl rfl rfl rfl rfl ?_ | refine zae 2 rfl rfl rfl rfl rfl rfl rfl ?_ | refine zae 3 rfl rfl rfl rfl rfl rfl rfl ?_) | refine zch ?_)
            refine run_take [0, 0, 0, 0] rfl ?_
            exact run_ret (drop_fin w0 p eb sb mb xb yb m R was true 0 s _ rfl rfl rfl hG)
          | succ q =>
            obtain ⟨bq, hbq⟩ : ∃ b, w.bs[q]? = some b := ⟨w.bs[q], List.getElem?_eq_getElem (by omega)⟩
            obtain ⟨cq, hcq⟩ : ∃ c, w.cs[q]? = some c := ⟨w.cs[q], List.getElem?_eq_getElem (by omega)⟩
            rw [zipL_succ hbq hcq] at hG
            simp only [Tr.fold, Pg.bind_assoc, Pg.ite_bind, Pg.pure_bind] at hG
            have hbr := hw6 bq (List.mem_of_getElem? hbq)
            refine run_sl_cases 4 rfl (fun h1 h2 h3 h4 => absurd h2 (by omega)) (fun ab e1 e2 e3 => ?_)
            subst e1
            refine run_sl_cases 5 rfl (fun h1 h2 h3 h4 => absurd h2 (by omega)) (fun cb e1 e2 e3 => ?_)
            subst e1
            have hrb : ∀ o, o = q → rd false 1 (intsV w.bs) o = some (.int .i64 bq) := fun o ho => rd_one (c := (intsV w.bs).toArray) (by simp [intsV, hbq]) o ho
            have hrc : ∀ o, o = q → rd false 1 (intsV w.cs) o = some (.int .i64 cq) := fun o ho => rd_one (c := (intsV w.cs).toArray) (by simp [intsV, hcq]) o ho
            repeat (first | refine zck ?_ | refine zcl ?_ | refine zcm ?_ | refine zcn ?_)
            first | refine zcp (by kernel_rfl) ?_ | refine zcq PP_mixed (by kernel_rfl) (by kernel_rfl) ?_
            repeat' (refine zap rfl ?_; first | refine zan rfl ?_ | refine zbm rfl rfl (by omega) ?_)
            all_goals refine zch ?_
            all_goals repeat (first | refine zck ?_ | refine zcl ?_ | refine zcm ?_ | refine zcn ?_)
            refine zci rfl ?_
            repeat (first | refine zck ?_ | refine zcl ?_ | refine zcm ?_ | refine zcn ?_)
            first | refine zcp (by kernel_rfl) ?_ | refine zcr [(.read, 0), (.read, 1), (.quiet, 2), (.read, 3), (.quiet, 4), (.quiet, 5), (.read, 6), (.loud, 7), (.quiet, 8), (.quiet, 9), (.quiet, 10), (.quiet, 11), (.quiet, 12)] PP_mixed (by kernel_rfl) (by kernel_rfl) ?_ | refine run_drawR PP_mixed (by kernel_rfl) (by kernel_rfl) ?_
            repeat' (refine zap rfl ?_; first | refine zag 4 rfl rfl (hrb _ (by omega)) (by decide) ?_ | refine zan rfl ?_ | refine zan rfl ?_ | refine zaa 0 rfl rfl rfl ?_ | refine zaa 2 rfl rfl rfl ?_ | refine zaa 4 rfl rfl rfl ?_ | refine reg_callG [0] hG (trAlone w0 bt p T hT bq hbr) rfl rfl rfl sub_nil (fun o s hG => ?_) | refine zao rfl ?_ | refine zan rfl ?_ | refine zas rfl rfl (by omega) ?_)
            all_goals refine zch ?_
            all_goals repeat (first | refine zck ?_ | refine zcl ?_ | refine zcm ?_ | refine zcn ?_)
            repeat (first | refine zck ?_ | refine zcl ?_ | refine zcm ?_ | refine zcn ?_)
            first | refine zcp (by kernel_rfl) ?_ | refine zcq PP_mixed (by kernel_rfl) (by kernel_rfl) ?_
            repeat' (refine zap rfl ?_; first | refine zan rfl ?_ | refine zbx rfl ?_)
            all_goals refine zch ?_
            all_goals repeat (first | refine zck ?_ | refine zcl ?_ | refine zcm ?_ | refine zcn ?_)
            refine run_condV rfl (fun hE2 => ?_) (fun hE2 => ?_)
            · have hE2 : o.2 = false := by simpa using hE2
              simp only [hE2, Bool.false_eq_true, if_false] at hG
              refine cut_exit rfl rfl ?_
              repeat' (first | refine zck ?_ | refine zcp (by kernel_rfl) ?_ | (refine zap rfl ?_; first | refine zab 1 rfl rfl rfl ?_ | refine zae 1 rfl rfl rfl rfl rfl rfl rfl ?_ | refine zae 2 rfl rfl rfl rfl rfl rfl rfl ?_ | refine zae 3 rfl rfl rfl rfl rfl rfl rfl ?_) | refine zch ?_)
              refine run_take [0, 0, 0, 0] rfl ?_
              exact run_ret (drop_fin w0 p eb sb mb xb yb m R was true 0 s _ rfl rfl rfl hG)
            · have hE2 : o.2 = true := by simpa using hE2
              simp only [hE2, if_true] at hG
              repeat (first | refine zck ?_ | refine zcl ?_ | refine zcm ?_ | refine zcn ?_)
              first | refine zcp (by kernel_rfl) ?_ | refine zcr [(.read, 0), (.quiet, 1), (.read, 2), (.quiet, 3), (.quiet, 4), (.read, 5), (.quiet, 6), (.loud, 7)] PP_mixed (by kernel_rfl) (by kernel_rfl) ?_ | refine run_drawR PP_mixed (by kernel_rfl) (by kernel_rfl) ?_
              repeat' (refine zap rfl ?_; first | refine zag 5 rfl rfl (hrc _ (by omega)) (by decide) ?_ | refine zan rfl ?_ | refine zaa 0 rfl rfl rfl ?_ | refine zaa 2 rfl rfl rfl ?_ | refine reg_callG [0] hG (putG w0 p _ _) rfl rfl rfl sub_nil (fun u s hG => ?_) | refine zao rfl ?_ | refine zas rfl rfl (by omega) ?_)
              all_goals refine zch ?_
              all_goals repeat (first | refine zck ?_ | refine zcl ?_ | refine zcm ?_ | refine zcn ?_)
              repeat (first | refine zck ?_ | refine zcl ?_ | refine zcm ?_ | refine zcn ?_)
              first | refine zcp (by kernel_rfl) ?_ | refine zcr [(.read, 0), (.read, 1), (.quiet, 2), (.read, 3), (.quiet, 4), (.quiet, 5), (.read, 6), (.loud, 7), (.loud, 8)] PP_mixed (by kernel_rfl) (by kernel_rfl) ?_ | refine run_drawR PP_mixed (by kernel_rfl) (by kernel_rfl) ?_
              repeat' (refine zap rfl ?_; first | refine zag 4 rfl rfl (hrb _ (by omega)) (by decide) ?_ | refine zan rfl ?_ | refine zaa 0 rfl rfl rfl ?_ | refine zaa 2 rfl rfl rfl ?_ | refine zaa 4 rfl rfl rfl ?_ | refine reg_callG [0] hG (trGive w0 bt p T hT _) rfl rfl rfl sub_nil (fun e s hG => ?_) | refine zao rfl ?_ | refine zae 3 rfl rfl rfl rfl rfl rfl rfl ?_ | refine zas rfl rfl (by omega) ?_)
              all_goals refine zch ?_
              all_goals repeat (first | refine zck ?_ | refine zcl ?_ | refine zcm ?_ | refine zcn ?_)
              repeat (first | refine zck ?_ | refine zcl ?_ | refine zcm ?_ | refine zcn ?_)
              first | refine zcp (by kernel_rfl) ?_ | refine zcq PP_mixed (by kernel_rfl) (by kernel_rfl) ?_
              repeat' (refine zap rfl ?_; first | refine zab 3 rfl rfl rfl ?_ | refine zbp rfl rfl ?_)
              all_goals refine zch ?_
              all_goals repeat (first | refine zck ?_ | refine zcl ?_ | refine zcm ?_ | refine zcn ?_)
              refine run_cond rfl (fun hE3 => ?_) (fun hE3 => ?_)
              · rw [if_pos hE3] at hG
                repeat (first | refine zck ?_ | refine zcl ?_ | refine zcm ?_ | refine zcn ?_)
                refine run_drawT [3] [(.quiet, 0), (.loud, 1), (.loud, 2)] [(.loud, 3)] PP_mixed (by kernel_rfl) (by kernel_rfl) rfl ?_
                repeat' (refine zap rfl ?_; first | refine zaa 0 rfl rfl rfl ?_ | refine zae 1 rfl rfl rfl rfl rfl rfl rfl ?_ | refine zae 2 rfl rfl rfl rfl rfl rfl rfl ?_)
                all_goals refine reg_turn ?_
                all_goals repeat' (refine zap rfl ?_; first | refine zae 0 rfl rfl rfl rfl rfl rfl rfl ?_)
                all_goals refine zch ?_
                all_goals repeat (first | refine zck ?_ | refine zcl ?_ | refine zcm ?_ | refine zcn ?_)
                refine run_take [1, 1, 1, 0] rfl ?_
                exact cut_ret (drop_fin w0 p eb sb mb xb yb m R 0 false e s _ rfl rfl rfl hG)
              · rw [if_neg hE3] at hG
                have he : e = 0 := by omega
                subst he
                repeat' (first | refine zcp (by kernel_rfl) ?_ | refine zcm ?_ | refine zcn ?_ | (refine zap rfl ?_; first | refine zan rfl ?_ | refine zan rfl ?_ | refine zav rfl rfl (by omega) ?_) | refine zch ?_)
                exact cut_end ⟨rfl, (q, s), ⟨rfl, rfl, rfl, rfl, rfl, rfl, int_eq (by dsimp only; omega), trivial⟩, ⟨rfl, hG, by dsimp only; omega⟩, Nat.lt_succ_self q⟩
end Go.Proofs.YtloekplbhknepaaGreat.NM

namespace Go.Proofs.YtloekplbhknepaaGreat.SF
open Go.Vc
theorem cmpF_name : CmpF 102 := by
  intro w0 x y
  obtain ⟨x1, x2⟩ := x
  obtain ⟨y1, y2⟩ := y
  show FnE PP w0 [] _ [.agg (List.toArray [.int .i64 x1, .int .i64 x2]), .agg (List.toArray [.int .i64 y1, .int .i64 y2])] [] (.int .i64 (cmpI x1 y1)) []
  refine fn_of_run en102 fn102 rfl rfl rfl ?_
  repeat' (first | refine zck ?_ | refine zcp (by kernel_rfl) ?_ | (refine zap rfl ?_; first | refine zan rfl ?_ | refine zab 0 rfl rfl rfl ?_ | refine zab 1 rfl rfl rfl ?_ | refine zah [] (compare_spec w0 _ _) rfl rfl rfl sub_nil rfl ?_ | refine zao rfl ?_ | refine zaq (cs := [_, _]) rfl (fun nb => ?_)) | refine zch ?_)
  refine run_take [] rfl ?_
  exact ret_tmp1 rfl ⟨rfl, rfl⟩
end Go.Proofs.YtloekplbhknepaaGreat.SF
namespace Go.Proofs.YtloekplbhknepaaGreat.NM
open Go.Vc Sim
set_option maxHeartbeats 4000000
def walkN (T : Tr) : Pg (List (Int × Int) × Int) := do
  let r ← T.walk
  if r.1.2 = true then
    if ((SF.sortP r.1.1).all fun x => hvN x.1) = true then pure (SF.sortP r.1.1, 0) else pure ([], 4)
  else pure ([], 24)
def nmsV (l : List (Int × Int)) : List Value := l.map fun x => .int .u8 (x.1 - 3)
def walkNR (r : List (Int × Int) × Int) (v : Value) (Γ : List Asn) : Prop :=
  ∃ a1 c1 a2 c2, v = .tuple #[.slice a1 r.1.length c1, .slice a2 r.1.length c2, .int .i64 r.2] ∧ Γ = [SlA 50 1 a1 r.1.length c1 (nmsV r.1), SlA 2 1 a2 r.1.length c2 (intsV (r.1.map (·.2)))]
theorem bd_walkN (T : Tr) : Pg.Bd 0 (walkN T) := by
  unfold walkN
  refine Pg.bd_then (T.bd_walkK _ _ _ _) ?_ (by decide)
  intro r
  split
  · split <;> exact Pg.bd_pure _
  · exact Pg.bd_pure _
theorem nms_take_succ {l : List (Int × Int)} {i : Nat} {x : Int × Int} (h : l[i]? = some x) : nmsV (l.take i) ++ [.int .u8 (x.1 - 3)] = nmsV (l.take (i + 1)) := by
  rw [List.take_add_one, h]
  simp [nmsV]
theorem trWalk (w0 : World) (bt : Int) (p : Nat) (T : Tr) (hT : T.Ok) : FnX w0 [] 78 [trVN bt T, spP p] p (walkN T) [] walkNR := by
  have hN0 := hT.pool.2.2.2.2.2.1
  have hN1 := hT.nodes
  intro s hS
  have hG := At.start hS
  generalize Pg.run _ s = R at hG ⊢
  unfold walkN Tr.walk at hG
  refine fn_of_run en78 fn78 rfl rfl rfl ?_
  repeat (first | refine zck ?_ | refine zcl ?_ | refine zcm ?_ | refine zcn ?_)
  first | refine zcp (by kernel_rfl) ?_ | refine zcq PP_mixed (by kernel_rfl) (by kernel_rfl) ?_
  repeat' (refine zap rfl ?_; first | refine zan rfl ?_ | refine zaq (cs := [_, _, _, _, _]) rfl (fun nb => ?_))
  all_goals refine zch ?_
  all_goals repeat (first | refine zck ?_ | refine zcl ?_ | refine zcm ?_ | refine zcn ?_)
  revert nb; intro tb
  refine run_share [1] rfl ?_
  repeat (first | refine zck ?_ | refine zcl ?_ | refine zcm ?_ | refine zcn ?_)
  first | refine zcp (by kernel_rfl) ?_ | refine zcq PP_mixed (by kernel_rfl) (by kernel_rfl) ?_
  repeat' (refine zap rfl ?_; first | refine zaa 0 rfl rfl rfl ?_ | refine zao rfl ?_ | refine zae 1 rfl rfl rfl rfl rfl rfl rfl ?_ | refine zar (fun nb => ?_))
  all_goals refine zch ?_
  all_goals repeat (first | refine zck ?_ | refine zcl ?_ | refine zcm ?_ | refine zcn ?_)
  revert nb; intro lb
  have hsp := trWalkK w0 bt p T hT (T.pool.nodes.toNat + 1) T.root 0 T.pool.nodes lb (by omega) ⟨hN0, hN1⟩ (by omega)
  repeat (first | refine zck ?_ | refine zcl ?_ | refine zcm ?_ | refine zcn ?_)
  first | refine zcp (by kernel_rfl) ?_ | refine zcq PP_mixed (by kernel_rfl) (by kernel_rfl) ?_
  repeat' (refine zap rfl ?_; first | refine zan rfl ?_ | refine zan rfl ?_ | refine zaa 0 rfl rfl rfl ?_ | (refine reg_callX [0, 0] hG (T.all_walkK _ _ 0 _ hN0) hsp rfl rfl rfl sub_nil ?_; rintro r s v' Γ1 hφ hwr hG; obtain ⟨a2, c2, h3, h4⟩ := hwr; subst h3; subst h4) | refine zao rfl ?_ | refine zan rfl ?_)
  all_goals refine zch ?_
  all_goals repeat (first | refine zck ?_ | refine zcl ?_ | refine zcm ?_ | refine zcn ?_)
  obtain ⟨⟨l, ok⟩, left⟩ := r
  obtain ⟨hφ1, hφ2, hφ3⟩ := hφ
  dsimp only at hG hφ1 hφ2 hφ3
  cases ok with
  | false =>
    rw [if_neg (by decide)] at hG
    rw [hG.done]
    repeat' (first | refine zck ?_ | refine zcp (by kernel_rfl) ?_ | (refine zap rfl ?_; first | refine zan rfl ?_ | refine zan rfl ?_ | refine zbx rfl ?_) | refine zch ?_ | refine zci rfl ?_)
    refine run_nilslice 50 1 ?_
    refine run_nilslice 2 1 ?_
    refine run_take [0, 2, 2] rfl ?_
    exact ret_tmp3 rfl ⟨_, rfl, none, 0, none, 0, rfl, rfl⟩
  | true =>
    rw [if_pos rfl] at hG
    have hl3 := hφ3 rfl
    have hso := SF.sort_spec w0 _ SF.cmpF_name a2 l.length c2 l (by omega) rfl
    have hlen := SF.sortP_len l
    generalize SF.sortP l = L at hso hlen hG
    repeat (first | refine zck ?_ | refine zcl ?_ | refine zcm ?_ | refine zcn ?_)
    first | refine zcp (by kernel_rfl) ?_ | refine zcq PP_mixed (by kernel_rfl) (by kernel_rfl) ?_
    repeat' (refine zap rfl ?_; first | refine zan rfl ?_ | refine zbx rfl ?_)
    all_goals refine zch ?_
    all_goals repeat (first | refine zck ?_ | refine zcl ?_ | refine zcm ?_ | refine zcn ?_)
    refine zcj rfl ?_
    repeat (first | refine zck ?_ | refine zcl ?_ | refine zcm ?_ | refine zcn ?_)
    first | refine zcp (by kernel_rfl) ?_ | refine zcq PP_mixed (by kernel_rfl) (by kernel_rfl) ?_
    repeat' (refine zap rfl ?_; first | refine zan rfl ?_ | refine zah [2] hso rfl rfl rfl sub_nil rfl ?_)
    all_goals refine zch ?_
    all_goals repeat (first | refine zck ?_ | refine zcl ?_ | refine zcm ?_ | refine zcn ?_)
    repeat (first | refine zck ?_ | refine zcl ?_ | refine zcm ?_ | refine zcn ?_)
    first | refine zcp (by kernel_rfl) ?_ | refine zcq PP_mixed (by kernel_rfl) (by kernel_rfl) ?_
    repeat' (refine zap rfl ?_; first | refine zan rfl ?_)
    all_goals refine zch ?_
    all_goals repeat (first | refine zck ?_ | refine zcl ?_ | refine zcm ?_ | refine zcn ?_)
    repeat (first | refine zck ?_ | refine zcl ?_ | refine zcm ?_ | refine zcn ?_)
    first | refine zcp (by kernel_rfl) ?_ | refine zcq PP_mixed (by kernel_rfl) (by kernel_rfl) ?_
    repeat' (refine zap rfl ?_; first | refine zan rfl ?_)
    all_goals refine zch ?_
    all_goals repeat (first | refine zck ?_ | refine zcl ?_ | refine zcm ?_ | refine zcn ?_)
    refine run_nilslice 50 1 ?_
    refine run_nilslice 2 1 ?_
    repeat (first | refine zck ?_ | refine zcl ?_ | refine zcm ?_ | refine zcn ?_)
    first | refine zcp (by kernel_rfl) ?_ | refine zcq PP_mixed (by kernel_rfl) (by kernel_rfl) ?_
    repeat' (refine zap rfl ?_; first | refine zan rfl ?_ | refine zce rfl ?_)
    all_goals refine zch ?_
    all_goals repeat (first | refine zck ?_ | refine zcl ?_ | refine zcm ?_ | refine zcn ?_)
    refine run_take [1, 0, 1, 1] rfl ?_
    refine run_loop (S := Nat × (Option Addr × Nat) × (Option Addr × Nat)) (fun st => [(1, spP p), (2, ptr tb), (10, .slice st.2.1.1 st.1 st.2.1.2), (11, .slice st.2.2.1 st.1 st.2.2.2), (31, .slice a2 l.length c2), (32, .int .i64 l.length), (33, .int .i64 (st.1 : Int))])
      (fun st Γ => Γ = [SpaceA p s, SlA 134 2 a2 l.length c2 (prsV L), SlA 50 1 st.2.1.1 st.1 st.2.1.2 (nmsV (L.take st.1)), SlA 2 1 st.2.2.1 st.1 st.2.2.2 (intsV ((L.take st.1).map (·.2)))] ∧ st.1 ≤ l.length ∧ ∀ x ∈ L.take st.1, hvN x.1 = true) (fun st => l.length - st.1)
      (0, (none, 0), (none, 0)) ⟨rfl, rfl, rfl, rfl, rfl, rfl, rfl, trivial⟩ ⟨rfl, Nat.zero_le _, fun x hx => by simp at hx⟩ ?_
    rintro ⟨i, ⟨a1, c1⟩, ⟨a3, c3⟩⟩ Γ junk ⟨rfl, hi, hall⟩
    dsimp only at hi hall ⊢
    by_cases hlt : i < l.length
    · have hx : L[i]? = some L[i] := List.getElem?_eq_getElem (by omega)
      generalize L[i] = x at hx
      have hrd := prsV_rd hx
      refine run_sl_cases 1 rfl (fun h1 h2 h3 h4 => by omega) (fun bb h1 h2 h3 => ?_)
      subst h1
      repeat (first | refine zck ?_ | refine zcl ?_ | refine zcm ?_ | refine zcn ?_)
      first | refine zcp (by kernel_rfl) ?_ | refine zcq PP_mixed (by kernel_rfl) (by kernel_rfl) ?_
      repeat' (refine zap rfl ?_; first | refine zbg rfl rfl (by omega) ?_)
      all_goals refine zch ?_
      all_goals repeat (first | refine zck ?_ | refine zcl ?_ | refine zcm ?_ | refine zcn ?_)
      refine zci rfl ?_
      repeat (first | refine zck ?_ | refine zcl ?_ | refine zcm ?_ | refine zcn ?_)
      first | refine zcp (by kernel_rfl) ?_ | refine zcq PP_mixed (by kernel_rfl) (by kernel_rfl) ?_
      repeat' (refine zap rfl ?_; first | refine zag 1 rfl rfl (hrd _ (by omega)) (by intro _; omega) ?_ | refine zae 4 rfl rfl rfl rfl rfl rfl rfl ?_ | refine zas rfl rfl (by omega) ?_ | refine zar (fun nb => ?_))
      all_goals refine zch ?_
      all_goals repeat (first | refine zck ?_ | refine zcl ?_ | refine zcm ?_ | refine zcn ?_)
      revert nb; intro qb
      by_cases h15 : 100 ≤ x.1 ∧ x.1 ≤ 115
      case neg =>
        repeat (first | refine zck ?_ | refine zcl ?_ | refine zcm ?_ | refine zcn ?_)
        first | refine zcp (by kernel_rfl) ?_ | refine zcq PP_mixed (by kernel_rfl) (by kernel_rfl) ?_
        repeat' (refine zap rfl ?_; first | refine zan rfl ?_ | refine zan rfl ?_ | refine zaa 0 rfl rfl rfl ?_ | refine zab 4 rfl rfl rfl ?_ | refine reg_invokeE [] (nmKey0 w0 bt _ h15) rfl rfl rfl sub_nil rfl ?_ | refine zao rfl ?_ | refine zan rfl ?_ | refine zae 5 rfl rfl rfl rfl rfl rfl rfl ?_ | refine zar (fun nb => ?_))
        all_goals refine zch ?_
        all_goals repeat (first | refine zck ?_ | refine zcl ?_ | refine zcm ?_ | refine zcn ?_)
        have hno : (L.all fun x => hvN x.1) = false := by
          rw [List.all_eq_false]
          exact ⟨x, List.mem_of_getElem? hx, by unfold hvN; simpa using h15⟩
        rw [hno, if_neg (by decide)] at hG
        rw [hG.done]
        repeat (first | refine zck ?_ | refine zcl ?_ | refine zcm ?_ | refine zcn ?_)
        first | refine zcp (by kernel_rfl) ?_ | refine zcq PP_mixed (by kernel_rfl) (by kernel_rfl) ?_
        repeat' (refine zap rfl ?_; first | refine zan rfl ?_ | refine zbx rfl ?_)
        all_goals refine zch ?_
        all_goals repeat (first | refine zck ?_ | refine zcl ?_ | refine zcm ?_ | refine zcn ?_)
        refine zci rfl ?_
        repeat (first | refine zck ?_ | refine zcl ?_ | refine zcm ?_ | refine zcn ?_)
        first | refine zcp (by kernel_rfl) ?_ | refine zcq PP_mixed (by kernel_rfl) (by kernel_rfl) ?_
        repeat' (refine zap rfl ?_; first | refine zan rfl ?_)
        all_goals refine zch ?_
        all_goals repeat (first | refine zck ?_ | refine zcl ?_ | refine zcm ?_ | refine zcn ?_)
        refine run_nilslice 50 1 ?_
        refine run_nilslice 2 1 ?_
        refine run_take [0, 5, 5] rfl ?_
        exact qret3 (fun _ _ h => h) rfl ⟨_, rfl, none, 0, none, 0, rfl, rfl⟩
      repeat (first | refine zck ?_ | refine zcl ?_ | refine zcm ?_ | refine zcn ?_)
      first | refine zcp (by kernel_rfl) ?_ | refine zcq PP_mixed (by kernel_rfl) (by kernel_rfl) ?_
      repeat' (refine zap rfl ?_; first | refine zan rfl ?_ | refine zan rfl ?_ | refine zaa 0 rfl rfl rfl ?_ | refine zab 4 rfl rfl rfl ?_ | refine reg_invokeE [] (nmKey w0 bt _ h15) rfl rfl rfl sub_nil rfl ?_ | refine zao rfl ?_ | refine zan rfl ?_ | refine zae 5 rfl rfl rfl rfl rfl rfl rfl ?_ | refine zar (fun nb => ?_))
      all_goals refine zch ?_
      all_goals repeat (first | refine zck ?_ | refine zcl ?_ | refine zcm ?_ | refine zcn ?_)
      revert nb; intro kb
      repeat (first | refine zck ?_ | refine zcl ?_ | refine zcm ?_ | refine zcn ?_)
      first | refine zcp (by kernel_rfl) ?_ | refine zcq PP_mixed (by kernel_rfl) (by kernel_rfl) ?_
      repeat' (refine zap rfl ?_; first | refine zan rfl ?_ | refine zbx rfl ?_)
      all_goals refine zch ?_
      all_goals repeat (first | refine zck ?_ | refine zcl ?_ | refine zcm ?_ | refine zcn ?_)
      refine zcj rfl ?_
      refine run_share [4] rfl ?_
      refine run_share [4] rfl ?_
      repeat (first | refine zck ?_ | refine zcl ?_ | refine zcm ?_ | refine zcn ?_)
      first | refine zcp (by kernel_rfl) ?_ | refine zcq PP_mixed (by kernel_rfl) (by kernel_rfl) ?_
      repeat' (refine zap rfl ?_; first | refine reg_buildSlice rfl rfl rfl rfl rfl rfl (fun nb2 => ?_) | refine reg_append 2 4 rfl rfl rfl rfl rfl rfl rfl rfl (by first | omega | (dsimp only; omega)) (fun _ _ => rfl) (fun a1' c1' => ?_) | refine reg_append 3 5 rfl rfl rfl rfl rfl rfl rfl rfl (by first | omega | (dsimp only; omega)) (fun _ _ => rfl) (fun a3' c3' => ?_) | refine zan rfl ?_ | refine zan rfl ?_ | refine zaa 0 rfl rfl rfl ?_ | refine zaa 1 rfl rfl rfl ?_ | refine zao rfl ?_)
      all_goals refine zch ?_
      all_goals repeat (first | refine zck ?_ | refine zcl ?_ | refine zcm ?_ | refine zcn ?_)
      repeat (first | refine zck ?_ | refine zcl ?_ | refine zcm ?_ | refine zcn ?_)
      first | refine zcp (by kernel_rfl) ?_ | refine zcq PP_mixed (by kernel_rfl) (by kernel_rfl) ?_
      repeat' (refine zap rfl ?_; first | refine zan rfl ?_ | refine zau rfl rfl (by omega) ?_)
      all_goals refine zch ?_
      all_goals repeat (first | refine zck ?_ | refine zcl ?_ | refine zcm ?_ | refine zcn ?_)
      refine run_take [0, 0, 0, 0] rfl ?_
      refine cut_end ⟨rfl, (i + 1, (a1', c1'), (a3', c3')), ⟨rfl, rfl, rfl, rfl, rfl, rfl, int_eq (by dsimp only; omega), trivial⟩, ⟨?_, hlt, fun y hy => ?_⟩, by dsimp only; omega⟩
      · dsimp only
        rw [← nms_take_succ hx, ← map_take_succ (·.2) hx]
        rfl
      · rw [List.take_add_one, hx, List.mem_append] at hy
        rcases hy with hy | hy
        · exact hall y hy
        · simp at hy; subst hy; exact decide_eq_true h15
    · have hil : i = l.length := by omega
      subst hil
      repeat' (first | refine zck ?_ | refine zcp (by kernel_rfl) ?_ | (refine zap rfl ?_; first | refine zbh rfl rfl (by omega) ?_) | refine zch ?_ | refine zcj rfl ?_)
      refine cut_exit rfl rfl ?_
      repeat' (first | refine zck ?_ | refine zcp (by kernel_rfl) ?_ | (refine zap rfl ?_; first | refine zan rfl ?_ | refine zan rfl ?_) | refine zch ?_)
      have e : L.take l.length = L := by rw [← hlen, List.take_length]
      rw [e] at hall ⊢
      have hyes : (L.all fun x => hvN x.1) = true := List.all_eq_true.2 hall
      rw [if_pos hyes] at hG
      rw [hG.done]
      rw [← hlen]
      refine run_take [0, 1, 1] rfl ?_
      exact ret_tmp3 rfl ⟨_, rfl, a1, c1, a3, c3, rfl, rfl⟩
theorem trLen (w0 : World) (bt : Int) (p : Nat) (T : Tr) (hT : T.Ok) : FnG w0 [] 79 [trVN bt T, spP p] p T.len (.int .i64) := by
  intro s hS
  have hG := At.start hS
  generalize Pg.run _ s = R at hG ⊢
  unfold Tr.len at hG
  have hr := hT.r1
  have hr0 := hT.r0
  refine fn_of_run en79 fn79 rfl rfl rfl ?_
  replace hG : At R (Pg.gt (T.root + 1) >>= fun u => Pg.ret u) s := hG
  repeat' (first | refine zck ?_ | refine zcp (by kernel_rfl) ?_ | (refine zap rfl ?_; first | refine zan rfl ?_ | refine zan rfl ?_ | refine zab 1 rfl rfl rfl ?_ | refine reg_callG [0] hG (getG w0 p _) rfl rfl rfl sub_nil (fun u s hG => ?_) | refine zao rfl ?_ | refine zau rfl rfl (by omega) ?_ | refine zaq (cs := [_, _, _, _, _]) rfl (fun nb => ?_)) | refine zch ?_)
  rw [hG.done]
  refine run_take [0] rfl ?_
  exact ret_tmp1 rfl ⟨rfl, rfl⟩
end Go.Proofs.YtloekplbhknepaaGreat.NM

namespace Sim
open Go Go.Vc
abbrev tN (bt K : Int) : Tr := t0 K (hsN bt) hvN
theorem tN_ok {bt K : Int} (hK : 0 ≤ K ∧ K ≤ 60) : (tN bt K).Ok := ⟨tP_ok hK, (by decide : (0 : Int) ≤ 16), (by decide : (16 : Int) ≤ 4096), (by show K ≤ 100; omega), fun n => (hsN_in bt n).1, fun n => (hsN_in bt n).2⟩
theorem tN_isN {bt K : Int} : (tN bt K).IsN bt := ⟨rfl, rfl⟩
end Sim
namespace Go.Proofs.YtloekplbhknepaaGreat.NM
open Go.Vc Sim
set_option maxHeartbeats 8000000
abbrev stC (bt : Int) (wb : Nat) (K : Int) (a : Option Addr) (c : Nat) (l : List Ri) : List Value := [.map (some wb), kN bt, .int .i64 1, .int .i64 64, .int .i64 K, .int .i64 16, .slice a l.length c]
abbrev stB (bt : Int) (xb wb : Nat) (K : Int) (a : Option Addr) (c : Nat) (l : List Ri) : Asn := pt xb (.cells (List.toArray (stC bt wb K a c l)) 46 (0, 0))
abbrev clC (d n v : Int) : Obj := .cells (List.toArray [.int .u8 d, .int .u8 (n - 3), .int .i64 v]) 99 (0, 0)
structure Ts (bt K : Int) (l : List Ri) where
  m : Int → Int
  a : Option Addr
  c : Nat
  ok : TOk K (hsN bt) hvN m l
section
variable {bt K : Int} {m : Int → Int} {l : List Ri}
theorem step1_spec (w0 : World) (sh : Shared) (p cb xb ab hb ob ib mb wb : Nat) (hK : 0 ≤ K ∧ K ≤ 60) (a : Option Addr) (c : Nat) (s : Sp) (hC : Cu 544 s s m 0) (h : TOk K (hsN bt) hvN m l) (d n v : Int) (hbt : 0 ≤ bt ∧ bt ≤ 255) (hn : 100 ≤ n ∧ n ≤ 115) (hd : 0 ≤ d ∧ d ≤ 255)
    (hcb : (cb, clC d n v) ∈ sh) (hab : (ab, intC (wasL l n)) ∈ sh) (hhb : (hb, boolC (rfind l n).2) ∈ sh) (hib : (ib, boolC true) ∈ sh) (hmb : (mb, intC n) ∈ sh) (l' : List Ri) (hl' : stepL K (hsN bt) l d n v = l') :
    Vc.Fn PP w0 sh 73 [spP p, ptr cb, ptr xb, ptr ab, ptr hb, ptr ob, ptr ib, ptr mb] [SpaceA p s, StarsA [stB bt xb wb K a c l, okB ob true, LstT a c l]]
      (fun v Γ => ∃ (st : Ts bt K l') (s' : Sp) (j : Nat), v = .tuple #[] ∧ Γ = [SpaceA p s', StarsA [stB bt xb wb K st.a st.c l', okB ob true, LstT st.a st.c l']] ∧ j ≤ 50000 ∧ Cu 544 s s' st.m j) := by
  have hT := tN_ok (bt := bt) hK
  have hlen := (h.few hK).2.2
  refine fn_of_run en73 fn73 rfl rfl rfl ?_
  refine run_unpack [1] rfl ?_
  refine run_lendE [2] rfl fun sh' hi hR => ?_
  have hmc : ∀ hF Γ w, Sh sh' hF → St w0 hF Γ w → w.heap[cb]? = some (clC d n v) := fun hF Γ w h1 h2 => (h2.frame (h1 _ (hi _ hcb))).2
  have hma : ∀ hF Γ w, Sh sh' hF → St w0 hF Γ w → w.heap[ab]? = some (intC (wasL l n)) := fun hF Γ w h1 h2 => (h2.frame (h1 _ (hi _ hab))).2
  have hmh : ∀ hF Γ w, Sh sh' hF → St w0 hF Γ w → w.heap[hb]? = some (boolC (rfind l n).2) := fun hF Γ w h1 h2 => (h2.frame (h1 _ (hi _ hhb))).2
  have hmi : ∀ hF Γ w, Sh sh' hF → St w0 hF Γ w → w.heap[ib]? = some (boolC true) := fun hF Γ w h1 h2 => (h2.frame (h1 _ (hi _ hib))).2
  have hmm : ∀ hF Γ w, Sh sh' hF → St w0 hF Γ w → w.heap[mb]? = some (intC n) := fun hF Γ w h1 h2 => (h2.frame (h1 _ (hi _ hmb))).2
  have HM : ∀ (sh2 : Shared) (hi2 : ∀ p ∈ sh', p ∈ sh2) (b : Nat) (o : Obj), (b, o) ∈ sh → ∀ hF Γ w, Sh sh2 hF → St w0 hF Γ w → w.heap[b]? = some o := fun sh2 hi2 b o hm hF Γ w h1 h2 => (h2.frame (h1 _ (hi2 _ (hi _ hm)))).2
  repeat (first | refine zck ?_ | refine zcl ?_ | refine zcm ?_ | refine zcn ?_)
  first | refine zcp (by kernel_rfl) ?_ | refine zcq PP_mixed (by kernel_rfl) (by kernel_rfl) ?_
  repeat' (refine zap rfl ?_; first | refine reg_rem_nn rfl rfl hd.1 (by decide) ?_ | refine zad rfl hmc rfl ?_ | refine zao rfl ?_)
  all_goals refine zch ?_
  all_goals repeat (first | refine zck ?_ | refine zcl ?_ | refine zcm ?_ | refine zcn ?_)
  unfold stepL at hl'
  by_cases c2 : d % 4 = 2
  · rw [if_pos c2] at hl'
    subst hl'
    repeat (first | refine zck ?_ | refine zcl ?_ | refine zcm ?_ | refine zcn ?_)
    first | refine zcp (by kernel_rfl) ?_ | refine zcq PP_mixed (by kernel_rfl) (by kernel_rfl) ?_
    repeat' (refine zap rfl ?_; first | refine zan rfl ?_ | refine zbc rfl rfl (by omega) ?_)
    all_goals refine zch ?_
    all_goals repeat (first | refine zck ?_ | refine zcl ?_ | refine zcm ?_ | refine zcn ?_)
    refine zci rfl ?_
    repeat (first | refine zck ?_ | refine zcl ?_ | refine zcm ?_ | refine zcn ?_)
    first | refine zcp (by kernel_rfl) ?_ | refine zcq PP_mixed (by kernel_rfl) (by kernel_rfl) ?_
    repeat' (refine zap rfl ?_; first | refine zad rfl hmc rfl ?_ | refine zan rfl ?_ | refine zan rfl ?_ | refine zab 0 rfl rfl rfl ?_ | (refine reg_callO [2] hC ((tN bt K).bd_get n (hsN bt n)) (h.get hK n) (by omega) (trGet w0 bt p (tN bt K) hT hbt n hn) rfl rfl rfl sub_nil ?_; rintro x s' m' ⟨rfl, em⟩ hC; rw [em] at hC) | refine zao rfl ?_ | refine zan rfl ?_)
    all_goals refine zch ?_
    all_goals repeat (first | refine zck ?_ | refine zcl ?_ | refine zcm ?_ | refine zcn ?_)
    repeat' (first | refine zcp (by kernel_rfl) ?_ | refine zcn ?_ | (refine zap rfl ?_; first | refine reg_eqBT rfl rfl ?_ | refine zbc rfl rfl (by dsimp only) ?_ | refine zad rfl hma rfl ?_ | refine zad rfl hmh rfl ?_ | refine zaj rfl ?_ | refine zan rfl ?_ | (refine zai [0] (writes_spec w0 p s' (by have := hC.few; omega)) rfl rfl rfl sub_nil ?_; rintro v Γ' ⟨wa, wcap, rfl, rfl⟩; have hw0 : s'.writes.length = 0 := Sp.writes_len0.2 (List.length_eq_zero_iff.1 (by have := hC.few; omega))) | refine zce rfl ?_ | refine zbc rfl rfl (by omega) ?_ | refine zbu rfl ?_ | refine zae 3 rfl rfl rfl rfl rfl rfl rfl ?_) | refine zch ?_)
    exact run_nil (leaves_nil (ends_pack [0, 1, 1, 1] rfl (ends_none rfl ⟨rfl, ⟨m, a, c, h⟩, s', 0, rfl, rfl, by decide, hC⟩)))
  rw [if_neg c2] at hl'
  by_cases c3 : d % 4 = 3
  · rw [if_pos c3] at hl'
    repeat (first | refine zck ?_ | refine zcl ?_ | refine zcm ?_ | refine zcn ?_)
    first | refine zcp (by kernel_rfl) ?_ | refine zcq PP_mixed (by kernel_rfl) (by kernel_rfl) ?_
    repeat' (refine zap rfl ?_; first | refine zan rfl ?_ | refine zbd rfl rfl (by omega) ?_)
    all_goals refine zch ?_
    all_goals repeat (first | refine zck ?_ | refine zcl ?_ | refine zcm ?_ | refine zcn ?_)
    refine zcj rfl ?_
    repeat (first | refine zck ?_ | refine zcl ?_ | refine zcm ?_ | refine zcn ?_)
    first | refine zcp (by kernel_rfl) ?_ | refine zcq PP_mixed (by kernel_rfl) (by kernel_rfl) ?_
    repeat' (refine zap rfl ?_; first | refine zan rfl ?_ | refine zbc rfl rfl (by omega) ?_)
    all_goals refine zch ?_
    all_goals repeat (first | refine zck ?_ | refine zcl ?_ | refine zcm ?_ | refine zcn ?_)
    refine zci rfl ?_
    repeat (first | refine zck ?_ | refine zcl ?_ | refine zcm ?_ | refine zcn ?_)
    first | refine zcp (by kernel_rfl) ?_ | refine zcq PP_mixed (by kernel_rfl) (by kernel_rfl) ?_
    repeat' (refine zap rfl ?_; first | refine zad rfl hmc rfl ?_ | refine zan rfl ?_ | refine zan rfl ?_ | refine zab 0 rfl rfl rfl ?_ | (refine reg_callO [2] hC ((tN bt K).bd_drop hT n (hsN bt n)) (h.drop hK n) (by omega) (trDrop w0 bt p (tN bt K) hT hbt n hn) rfl rfl rfl sub_nil ?_; rintro x s' m' ⟨rfl, hM⟩ hC) | refine zao rfl ?_ | refine zan rfl ?_)
    all_goals refine zch ?_
    all_goals repeat (first | refine zck ?_ | refine zcl ?_ | refine zcm ?_ | refine zcn ?_)
    repeat (first | refine zck ?_ | refine zcl ?_ | refine zcm ?_ | refine zcn ?_)
    first | refine zcp (by kernel_rfl) ?_ | refine zcq PP_mixed (by kernel_rfl) (by kernel_rfl) ?_
    repeat' (refine zap rfl ?_; first | refine zad rfl hmi rfl ?_ | refine zbx rfl ?_)
    all_goals refine zch ?_
    all_goals repeat (first | refine zck ?_ | refine zcl ?_ | refine zcm ?_ | refine zcn ?_)
    refine zcj rfl ?_
    repeat (first | refine zck ?_ | refine zcl ?_ | refine zcm ?_ | refine zcn ?_)
    first | refine zcp (by kernel_rfl) ?_ | refine zcq PP_mixed (by kernel_rfl) (by kernel_rfl) ?_
    repeat' (refine zap rfl ?_; first | refine reg_eqBT rfl rfl ?_ | refine zbc rfl rfl (by dsimp only) ?_ | refine zad rfl hma rfl ?_ | refine zad rfl hmh rfl ?_ | refine zaj rfl ?_ | refine zan rfl ?_ | refine zbu rfl ?_ | refine zae 2 rfl rfl rfl rfl rfl rfl rfl ?_)
    all_goals refine zch ?_
    all_goals repeat (first | refine zck ?_ | refine zcl ?_ | refine zcm ?_ | refine zcn ?_)
    by_cases hf : (rfind l n).2 = true
    · have hD := rfDrop1 w0 sh' a c l hR (by omega) n hf
      subst hl'
      repeat' (first | refine zcp (by kernel_rfl) ?_ | refine zcn ?_ | (refine zap rfl ?_; first | refine zad rfl hmm rfl ?_ | refine zab 1 rfl rfl rfl ?_ | (refine zai [] hD rfl rfl rfl (fun _ h => h) ?_; rintro v Γ' ⟨a1, c1, rfl, rfl⟩) | refine zao rfl ?_ | refine zae 2 rfl rfl rfl rfl rfl rfl rfl ?_) | refine zch ?_)
      refine run_exch 0 _ rfl (LstE.ofSl (encT_len _) rfl) rfl ?_
      exact run_nil (leaves_nil (ends_pack [1, 1, 1, 0] rfl (ends_none rfl ⟨rfl, ⟨_, a1, c1, hM⟩, s', _, rfl, rfl, by decide, hC⟩)))
    · have hf : (rfind l n).2 = false := by simpa using hf
      have hD := rfDrop0 w0 sh' a c l hR (by omega) n hf
      have e : rdrop l n = l := by unfold rdrop; rw [hf, if_neg (by decide)]
      rw [e] at hl' hM
      subst hl'
      repeat' (first | refine zcp (by kernel_rfl) ?_ | refine zcn ?_ | (refine zap rfl ?_; first | refine zad rfl hmm rfl ?_ | refine zab 1 rfl rfl rfl ?_ | refine zah [] hD rfl rfl rfl (fun _ h => h) rfl ?_ | refine zao rfl ?_ | refine zae 1 rfl rfl rfl rfl rfl rfl rfl ?_) | refine zch ?_)
      exact run_nil (leaves_nil (ends_pack [0, 0, 0, 0] rfl (ends_none rfl ⟨rfl, ⟨_, a, c, hM⟩, s', _, rfl, rfl, by decide, hC⟩)))
  rw [if_neg c3] at hl'
  have hPut := rfPut w0 sh' a c l hR (by omega) ⟨n, hsN bt n, v⟩
  have hpl := rput_len l ⟨n, hsN bt n, v⟩
  have hH := nmHash w0 bt n hbt hn
  have hh0 : ∀ x ∈ rput l ⟨n, hsN bt n, v⟩, 0 ≤ x.h := rput_hh (fun x hx => (h.hh x hx).2.2) (hsN_in bt n).1
  repeat (first | refine zck ?_ | refine zcl ?_ | refine zcm ?_ | refine zcn ?_)
  first | refine zcp (by kernel_rfl) ?_ | refine zcq PP_mixed (by kernel_rfl) (by kernel_rfl) ?_
  repeat' (refine zap rfl ?_; first | refine zan rfl ?_ | refine zbd rfl rfl (by omega) ?_)
  all_goals refine zch ?_
  all_goals repeat (first | refine zck ?_ | refine zcl ?_ | refine zcm ?_ | refine zcn ?_)
  refine zcj rfl ?_
  repeat (first | refine zck ?_ | refine zcl ?_ | refine zcm ?_ | refine zcn ?_)
  first | refine zcp (by kernel_rfl) ?_ | refine zcq PP_mixed (by kernel_rfl) (by kernel_rfl) ?_
  repeat' (refine zap rfl ?_; first | refine zan rfl ?_ | refine zbd rfl rfl (by omega) ?_)
  all_goals refine zch ?_
  all_goals repeat (first | refine zck ?_ | refine zcl ?_ | refine zcm ?_ | refine zcn ?_)
  refine zcj rfl ?_
  repeat (first | refine zck ?_ | refine zcl ?_ | refine zcm ?_ | refine zcn ?_)
  first | refine zcp (by kernel_rfl) ?_ | refine zcq PP_mixed (by kernel_rfl) (by kernel_rfl) ?_
  repeat' (refine zap rfl ?_; first | refine zad rfl hmc rfl ?_ | refine zan rfl ?_ | refine zan rfl ?_ | refine zab 0 rfl rfl rfl ?_ | (refine reg_callO [2] hC ((tN bt K).bd_put n (hsN bt n) v) (h.put hK n v ⟨decide_eq_true hn, (hsN_in bt n).1⟩) (by omega) (trPut w0 bt p (tN bt K) hT tN_isN hbt n v hn) rfl rfl rfl sub_nil ?_; rintro x s' m' hx hC) | refine zao rfl ?_ | refine zan rfl ?_)
  all_goals refine zch ?_
  all_goals repeat (first | refine zck ?_ | refine zcl ?_ | refine zcm ?_ | refine zcn ?_)
  repeat (first | refine zck ?_ | refine zcl ?_ | refine zcm ?_ | refine zcn ?_)
  first | refine zcp (by kernel_rfl) ?_ | refine zcq PP_mixed (by kernel_rfl) (by kernel_rfl) ?_
  repeat' (refine zap rfl ?_; first | refine zad rfl hmi rfl ?_ | refine zbx rfl ?_)
  all_goals refine zch ?_
  all_goals repeat (first | refine zck ?_ | refine zcl ?_ | refine zcm ?_ | refine zcn ?_)
  refine zcj rfl ?_
  refine zcm ?_
  repeat refine zck ?_
  obtain ⟨⟨x1, x2⟩, x3⟩ := x
  refine run_bind_eq2 (σ := Option Addr × Nat) (l' := fun st => [(0, spP p), (2, ptr xb), (3, ptr ab), (4, ptr hb), (5, ptr ob), (14, .int .i64 x1), (15, .bool x2), (16, .int .i64 x3), (17, .slice st.1 (rput l ⟨n, hsN bt n, v⟩).length st.2)])
    (Γ' := fun st => [SlA 94 3 st.1 (rput l ⟨n, hsN bt n, v⟩).length st.2 ((rput l ⟨n, hsN bt n, v⟩).flatMap encT), SpaceA p s', okB ob true, stB bt xb wb K a c l]) ?_ (fun st junk => ?_)
  · refine run_share_keep [1] rfl ?_
    repeat (first | refine zck ?_ | refine zcl ?_ | refine zcm ?_ | refine zcn ?_)
    first | refine zcp (by kernel_rfl) ?_ | refine zcq PP_mixed (by kernel_rfl) (by kernel_rfl) ?_
    repeat' (refine zap rfl ?_; first | refine zad rfl (HM _ (fun _ h => .tail _ h) _ _ hcb) rfl ?_ | refine zad rfl (HM _ (fun _ h => .tail _ h) _ _ hmb) rfl ?_ | refine zan rfl ?_ | refine zaa 0 rfl rfl rfl ?_ | refine reg_invokeE [] hH rfl rfl rfl sub_nil rfl ?_ | (refine zai [] hPut rfl rfl rfl (fun _ h => .tail _ h) ?_; rintro v' Γ' ⟨a1, c1, rfl, rfl⟩) | refine zao rfl ?_ | refine zcb rfl ?_)
    all_goals refine zch ?_
    all_goals repeat (first | refine zck ?_ | refine zcl ?_ | refine zcm ?_ | refine zcn ?_)
    exact run_nil (show _ ∧ ∃ _, _ ∧ _ from ⟨rfl, (a1, c1), ⟨rfl, rfl, rfl, rfl, rfl, rfl, rfl, rfl, rfl, trivial⟩, rfl⟩)
  obtain ⟨a1, c1⟩ := st
  dsimp only
  refine run_exch 0 _ rfl (LstE.ofSl (encT_len _) rfl) rfl ?_
  refine run_lendE [0] rfl fun sh2 hi2 hR2 => ?_
  have hNd := rfNodes w0 sh2 a1 c1 _ hR2 (by omega) hh0
  repeat refine zck ?_
  by_cases hfull : (rnodes (rput l ⟨n, hsN bt n, v⟩) : Int) ≤ K
  · rw [if_pos hfull] at hl'
    subst hl'
    replace hx := hx.resolve_right (fun ⟨_, e, _⟩ => by omega)
    obtain ⟨e, _, hM⟩ := hx
    cases e
    refine run_bind_eq (l' := [(0, spP p), (2, ptr xb), (3, ptr ab), (4, ptr hb), (5, ptr ob), (14, .int .i64 (wasL l n)), (15, .bool (rfind l n).2), (16, .int .i64 0), (17, .slice a1 (rput l ⟨n, hsN bt n, v⟩).length c1), (64, .bool false)]) (Γ' := [SpaceA p s', okB ob true, stB bt xb wb K a c l]) ?_ (fun junk => ?_)
    · refine run_share_keep [2] rfl ?_
      repeat (first | refine zck ?_ | refine zcl ?_ | refine zcm ?_ | refine zcn ?_)
      first | refine zcp (by kernel_rfl) ?_ | refine zcq PP_mixed (by kernel_rfl) (by kernel_rfl) ?_
      repeat' (refine zap rfl ?_; first | refine zan rfl ?_ | refine zaa 0 rfl rfl rfl ?_ | refine zah [] hNd rfl rfl rfl (fun _ h => .tail _ h) rfl ?_ | refine zao rfl ?_ | refine zbl rfl rfl (by omega) ?_)
      all_goals refine zch ?_
      all_goals repeat (first | refine zck ?_ | refine zcl ?_ | refine zcm ?_ | refine zcn ?_)
      exact run_nil (show _ ∧ _ ∧ _ from ⟨rfl, ⟨rfl, rfl, rfl, rfl, rfl, rfl, rfl, rfl, rfl, rfl, trivial⟩, rfl⟩)
    repeat' (first | refine zck ?_ | refine zcp (by kernel_rfl) ?_ | refine zcm ?_ | refine zcn ?_ | (refine zap rfl ?_; first | refine reg_eqBT rfl rfl ?_ | refine zbc rfl rfl (by dsimp only) ?_ | refine zad rfl (HM _ hi2 _ _ hab) rfl ?_ | refine zad rfl (HM _ hi2 _ _ hhb) rfl ?_ | refine zaj rfl ?_ | refine zan rfl ?_ | refine zao rfl ?_ | refine zbu rfl ?_ | refine zae 1 rfl rfl rfl rfl rfl rfl rfl ?_ | refine zae 2 rfl rfl rfl rfl rfl rfl rfl ?_) | refine zch ?_ | refine zcj rfl ?_)
    exact run_nil (leaves_nil (ends_pack [0, 1, 0, 0] rfl (ends_none rfl ⟨rfl, ⟨_, a1, c1, hM⟩, s', _, rfl, rfl, by decide, hC⟩)))
  · rw [if_neg hfull] at hl'
    subst hl'
    rcases hx with ⟨_, e, _⟩ | ⟨e, _, em⟩
    · exact absurd e hfull
    cases e
    rw [em] at hC
    refine run_bind_eq (l' := [(0, spP p), (2, ptr xb), (3, ptr ab), (4, ptr hb), (5, ptr ob), (14, .int .i64 0), (15, .bool false), (16, .int .i64 9), (17, .slice a1 (rput l ⟨n, hsN bt n, v⟩).length c1), (64, .bool true)]) (Γ' := [SpaceA p s', okB ob true, stB bt xb wb K a c l]) ?_ (fun junk => ?_)
    · refine run_share_keep [2] rfl ?_
      repeat (first | refine zck ?_ | refine zcl ?_ | refine zcm ?_ | refine zcn ?_)
      first | refine zcp (by kernel_rfl) ?_ | refine zcq PP_mixed (by kernel_rfl) (by kernel_rfl) ?_
      repeat' (refine zap rfl ?_; first | refine zan rfl ?_ | refine zaa 0 rfl rfl rfl ?_ | refine zah [] hNd rfl rfl rfl (fun _ h => .tail _ h) rfl ?_ | refine zao rfl ?_ | refine zbk rfl rfl (by omega) ?_)
      all_goals refine zch ?_
      all_goals repeat (first | refine zck ?_ | refine zcl ?_ | refine zcm ?_ | refine zcn ?_)
      exact run_nil (show _ ∧ _ ∧ _ from ⟨rfl, ⟨rfl, rfl, rfl, rfl, rfl, rfl, rfl, rfl, rfl, rfl, trivial⟩, rfl⟩)
    repeat' (first | refine zck ?_ | refine zcp (by kernel_rfl) ?_ | (refine zap rfl ?_; first | refine zaj rfl ?_ | refine zan rfl ?_ | refine zbc rfl rfl (by omega) ?_ | refine zbx rfl ?_ | refine zbu rfl ?_ | refine zae 1 rfl rfl rfl rfl rfl rfl rfl ?_) | refine zch ?_ | refine zci rfl ?_)
    exact run_ret (leaves_nil (ends_pack [0, 1, 0, 1] rfl (ends_none rfl ⟨rfl, ⟨_, a, c, h⟩, s', _, rfl, rfl, by decide, hC⟩)))
end
end Go.Proofs.YtloekplbhknepaaGreat.NM

namespace Go.Proofs.YtloekplbhknepaaGreat.NM
open Go.Vc Sim
set_option maxHeartbeats 8000000
section
variable {bt x : Int}
theorem trGet0 (w0 : World) (p : Nat) (T : Tr) (s : Sp) (hx : ¬ (97 ≤ x ∧ x ≤ 112)) : FnE PP w0 [] 74 [trVN bt T, spP p, nmV x] [SpaceA p s] (.tuple #[.int .i64 0, .bool false]) [SpaceA p s] := by
  have hN := nmNum0 w0 bt x hx
  refine fn_of_run en74 fn74 rfl rfl rfl ?_
  repeat' (first | refine zck ?_ | refine zcp (by kernel_rfl) ?_ | (refine zap rfl ?_; first | refine zan rfl ?_ | refine zan rfl ?_ | refine zab 1 rfl rfl rfl ?_ | refine zab 2 rfl rfl rfl ?_ | refine reg_invokeE [] hN rfl rfl rfl sub_nil rfl ?_ | refine zao rfl ?_ | refine zan rfl ?_ | refine zbx rfl ?_ | refine zaq (cs := [_]) rfl (fun nb => ?_) | refine zaq (cs := [_, _, _, _, _]) rfl (fun nb => ?_)) | refine zch ?_ | refine zci rfl ?_)
  refine run_take [0] rfl ?_
  exact ret_tmp2 rfl ⟨rfl, rfl⟩
theorem trPut0 (w0 : World) (p : Nat) (T : Tr) (s : Sp) (v : Int) (hx : ¬ (97 ≤ x ∧ x ≤ 112)) : FnE PP w0 [] 76 [trVN bt T, spP p, nmV x, .int .i64 v] [SpaceA p s] (.tuple #[.int .i64 0, .bool false, .int .i64 4]) [SpaceA p s] := by
  have hN := nmNum0 w0 bt x hx
  refine fn_of_run en76 fn76 rfl rfl rfl ?_
  repeat' (first | refine zck ?_ | refine zcp (by kernel_rfl) ?_ | (refine zap rfl ?_; first | refine zan rfl ?_ | refine zan rfl ?_ | refine zab 1 rfl rfl rfl ?_ | refine zab 3 rfl rfl rfl ?_ | refine reg_invokeE [] hN rfl rfl rfl sub_nil rfl ?_ | refine zao rfl ?_ | refine zan rfl ?_ | refine zbx rfl ?_ | refine zae 4 rfl rfl rfl rfl rfl rfl rfl ?_ | refine zaq (cs := [_]) rfl (fun nb => ?_) | refine zaq (cs := [_, _, _, _, _]) rfl (fun nb => ?_) | refine zar (fun nb => ?_)) | refine zch ?_ | refine zci rfl ?_)
  exact run_ret (leaves_nil (ends_take [0] rfl (ends_three rfl rfl rfl (resOk_pt 4 rfl rfl rfl) ⟨rfl, rfl, rfl⟩)))
theorem trDrop0 (w0 : World) (p : Nat) (T : Tr) (s : Sp) (hx : ¬ (97 ≤ x ∧ x ≤ 112)) : FnE PP w0 [] 75 [trVN bt T, spP p, nmV x] [SpaceA p s] (.tuple #[.int .i64 0, .bool false, .int .i64 4]) [SpaceA p s] := by
  have hN := nmNum0 w0 bt x hx
  refine fn_of_run en75 fn75 rfl rfl rfl ?_
  repeat' (first | refine zck ?_ | refine zcp (by kernel_rfl) ?_ | (refine zap rfl ?_; first | refine zae 6 rfl rfl rfl rfl rfl rfl rfl ?_ | refine zan rfl ?_ | refine zan rfl ?_ | refine zab 1 rfl rfl rfl ?_ | refine zab 3 rfl rfl rfl ?_ | refine reg_invokeE [] hN rfl rfl rfl sub_nil rfl ?_ | refine zao rfl ?_ | refine zan rfl ?_ | refine zbx rfl ?_ | refine zae 4 rfl rfl rfl rfl rfl rfl rfl ?_ | refine zae 5 rfl rfl rfl rfl rfl rfl rfl ?_ | refine zaq (cs := [_]) rfl (fun nb => ?_) | refine zaq (cs := [_, _, _, _, _]) rfl (fun nb => ?_) | refine zar (fun nb => ?_)) | refine zch ?_ | refine zci rfl ?_)
  exact run_ret (leaves_nil (ends_take [0] rfl (ends_three rfl (resOk_pt 4 rfl rfl rfl) (resOk_pt 5 rfl rfl rfl) (resOk_pt 6 rfl rfl rfl) ⟨rfl, rfl, rfl⟩)))
abbrev clC0 (d x v : Int) : Obj := .cells (List.toArray [.int .u8 d, .int .u8 x, .int .i64 v]) 99 (0, 0)
end
section
variable {bt K : Int} {m : Int → Int} {l : List Ri}
theorem step1_0 (w0 : World) (sh : Shared) (p cb xb ab hb ob ib mb wb : Nat) (a : Option Addr) (c : Nat) (s : Sp) (hC : Cu 544 s s m 0) (h : TOk K (hsN bt) hvN m l) (d x v : Int) (hx : ¬ (97 ≤ x ∧ x ≤ 112)) (hd : 0 ≤ d ∧ d ≤ 255)
    (hcb : (cb, clC0 d x v) ∈ sh) (hab : (ab, intC 0) ∈ sh) (hhb : (hb, boolC false) ∈ sh) (hib : (ib, boolC false) ∈ sh) :
    Vc.Fn PP w0 sh 73 [spP p, ptr cb, ptr xb, ptr ab, ptr hb, ptr ob, ptr ib, ptr mb] [SpaceA p s, StarsA [stB bt xb wb K a c l, okB ob true, LstT a c l]]
      (fun v Γ => ∃ (st : Ts bt K l) (s' : Sp) (j : Nat), v = .tuple #[] ∧ Γ = [SpaceA p s', StarsA [stB bt xb wb K st.a st.c l, okB ob true, LstT st.a st.c l]] ∧ j ≤ 50000 ∧ Cu 544 s s' st.m j) := by
  refine fn_of_run en73 fn73 rfl rfl rfl ?_
  refine run_unpack [1] rfl ?_
  have hmc : ∀ hF Γ w, Sh sh hF → St w0 hF Γ w → w.heap[cb]? = some (clC0 d x v) := fun hF Γ w h1 h2 => (h2.frame (h1 _ hcb)).2
  have hma : ∀ hF Γ w, Sh sh hF → St w0 hF Γ w → w.heap[ab]? = some (intC 0) := fun hF Γ w h1 h2 => (h2.frame (h1 _ hab)).2
  have hmh : ∀ hF Γ w, Sh sh hF → St w0 hF Γ w → w.heap[hb]? = some (boolC false) := fun hF Γ w h1 h2 => (h2.frame (h1 _ hhb)).2
  have hmi : ∀ hF Γ w, Sh sh hF → St w0 hF Γ w → w.heap[ib]? = some (boolC false) := fun hF Γ w h1 h2 => (h2.frame (h1 _ hib)).2
  repeat (first | refine zck ?_ | refine zcl ?_ | refine zcm ?_ | refine zcn ?_)
  first | refine zcp (by kernel_rfl) ?_ | refine zcq PP_mixed (by kernel_rfl) (by kernel_rfl) ?_
  repeat' (refine zap rfl ?_; first | refine reg_rem_nn rfl rfl hd.1 (by decide) ?_ | refine zad rfl hmc rfl ?_ | refine zao rfl ?_)
  all_goals refine zch ?_
  all_goals repeat (first | refine zck ?_ | refine zcl ?_ | refine zcm ?_ | refine zcn ?_)
  by_cases c2 : d % 4 = 2
  · repeat (first | refine zck ?_ | refine zcl ?_ | refine zcm ?_ | refine zcn ?_)
    first | refine zcp (by kernel_rfl) ?_ | refine zcq PP_mixed (by kernel_rfl) (by kernel_rfl) ?_
    repeat' (refine zap rfl ?_; first | refine zan rfl ?_ | refine zbc rfl rfl (by omega) ?_)
    all_goals refine zch ?_
    all_goals repeat (first | refine zck ?_ | refine zcl ?_ | refine zcm ?_ | refine zcn ?_)
    refine zci rfl ?_
    repeat (first | refine zck ?_ | refine zcl ?_ | refine zcm ?_ | refine zcn ?_)
    first | refine zcp (by kernel_rfl) ?_ | refine zcq PP_mixed (by kernel_rfl) (by kernel_rfl) ?_
    repeat' (refine zap rfl ?_; first | refine zad rfl hmc rfl ?_ | refine zan rfl ?_ | refine zan rfl ?_ | refine zab 0 rfl rfl rfl ?_ | refine zah [3] (trGet0 w0 p (tN bt K) s hx) rfl rfl rfl sub_nil rfl ?_ | refine zao rfl ?_ | refine zan rfl ?_)
    all_goals refine zch ?_
    all_goals repeat (first | refine zck ?_ | refine zcl ?_ | refine zcm ?_ | refine zcn ?_)
    repeat' (first | refine zcp (by kernel_rfl) ?_ | refine zcn ?_ | (refine zap rfl ?_; first | refine reg_eqBT rfl rfl ?_ | refine zbc rfl rfl (by dsimp only) ?_ | refine zad rfl hma rfl ?_ | refine zad rfl hmh rfl ?_ | refine zaj rfl ?_ | refine zan rfl ?_ | (refine zai [0] (writes_spec w0 p s (by have := hC.few; omega)) rfl rfl rfl sub_nil ?_; rintro v Γ' ⟨wa, wcap, rfl, rfl⟩; have hw0 : s.writes.length = 0 := Sp.writes_len0.2 (List.length_eq_zero_iff.1 (by have := hC.few; omega))) | refine zce rfl ?_ | refine zbc rfl rfl (by omega) ?_ | refine zbu rfl ?_ | refine zae 3 rfl rfl rfl rfl rfl rfl rfl ?_) | refine zch ?_)
    exact run_nil (leaves_nil (ends_pack [0, 1, 1, 1] rfl (ends_none rfl ⟨rfl, ⟨m, a, c, h⟩, s, 0, rfl, rfl, by decide, hC⟩)))
  by_cases c3 : d % 4 = 3
  · repeat (first | refine zck ?_ | refine zcl ?_ | refine zcm ?_ | refine zcn ?_)
    first | refine zcp (by kernel_rfl) ?_ | refine zcq PP_mixed (by kernel_rfl) (by kernel_rfl) ?_
    repeat' (refine zap rfl ?_; first | refine zan rfl ?_ | refine zbd rfl rfl (by omega) ?_)
    all_goals refine zch ?_
    all_goals repeat (first | refine zck ?_ | refine zcl ?_ | refine zcm ?_ | refine zcn ?_)
    refine zcj rfl ?_
    repeat (first | refine zck ?_ | refine zcl ?_ | refine zcm ?_ | refine zcn ?_)
    first | refine zcp (by kernel_rfl) ?_ | refine zcq PP_mixed (by kernel_rfl) (by kernel_rfl) ?_
    repeat' (refine zap rfl ?_; first | refine zan rfl ?_ | refine zbc rfl rfl (by omega) ?_)
    all_goals refine zch ?_
    all_goals repeat (first | refine zck ?_ | refine zcl ?_ | refine zcm ?_ | refine zcn ?_)
    refine zci rfl ?_
    repeat (first | refine zck ?_ | refine zcl ?_ | refine zcm ?_ | refine zcn ?_)
    first | refine zcp (by kernel_rfl) ?_ | refine zcq PP_mixed (by kernel_rfl) (by kernel_rfl) ?_
    repeat' (refine zap rfl ?_; first | refine zad rfl hmc rfl ?_ | refine zan rfl ?_ | refine zan rfl ?_ | refine zab 0 rfl rfl rfl ?_ | refine zah [3] (trDrop0 w0 p (tN bt K) s hx) rfl rfl rfl sub_nil rfl ?_ | refine zao rfl ?_ | refine zan rfl ?_)
    all_goals refine zch ?_
    all_goals repeat (first | refine zck ?_ | refine zcl ?_ | refine zcm ?_ | refine zcn ?_)
    repeat' (first | refine zck ?_ | refine zcp (by kernel_rfl) ?_ | (refine zap rfl ?_; first | refine zbc rfl rfl (by dsimp only) ?_ | refine zad rfl hmi rfl ?_ | refine zaj rfl ?_ | refine zan rfl ?_ | refine zbx rfl ?_ | refine zbu rfl ?_ | refine zae 2 rfl rfl rfl rfl rfl rfl rfl ?_) | refine zch ?_ | refine zci rfl ?_)
    exact run_ret (leaves_nil (ends_pack [0, 0, 0, 0] rfl (ends_none rfl ⟨rfl, ⟨m, a, c, h⟩, s, 0, rfl, rfl, by decide, hC⟩)))
  repeat (first | refine zck ?_ | refine zcl ?_ | refine zcm ?_ | refine zcn ?_)
  first | refine zcp (by kernel_rfl) ?_ | refine zcq PP_mixed (by kernel_rfl) (by kernel_rfl) ?_
  repeat' (refine zap rfl ?_; first | refine zan rfl ?_ | refine zbd rfl rfl (by omega) ?_)
  all_goals refine zch ?_
  all_goals repeat (first | refine zck ?_ | refine zcl ?_ | refine zcm ?_ | refine zcn ?_)
  refine zcj rfl ?_
  repeat (first | refine zck ?_ | refine zcl ?_ | refine zcm ?_ | refine zcn ?_)
  first | refine zcp (by kernel_rfl) ?_ | refine zcq PP_mixed (by kernel_rfl) (by kernel_rfl) ?_
  repeat' (refine zap rfl ?_; first | refine zan rfl ?_ | refine zbd rfl rfl (by omega) ?_)
  all_goals refine zch ?_
  all_goals repeat (first | refine zck ?_ | refine zcl ?_ | refine zcm ?_ | refine zcn ?_)
  refine zcj rfl ?_
  repeat (first | refine zck ?_ | refine zcl ?_ | refine zcm ?_ | refine zcn ?_)
  first | refine zcp (by kernel_rfl) ?_ | refine zcq PP_mixed (by kernel_rfl) (by kernel_rfl) ?_
  repeat' (refine zap rfl ?_; first | refine zad rfl hmc rfl ?_ | refine zan rfl ?_ | refine zan rfl ?_ | refine zab 0 rfl rfl rfl ?_ | refine zah [3] (trPut0 w0 p (tN bt K) s v hx) rfl rfl rfl sub_nil rfl ?_ | refine zao rfl ?_ | refine zan rfl ?_)
  all_goals refine zch ?_
  all_goals repeat (first | refine zck ?_ | refine zcl ?_ | refine zcm ?_ | refine zcn ?_)
  repeat' (first | refine zck ?_ | refine zcp (by kernel_rfl) ?_ | (refine zap rfl ?_; first | refine zbc rfl rfl (by dsimp only) ?_ | refine zad rfl hmi rfl ?_ | refine zaj rfl ?_ | refine zan rfl ?_ | refine zbx rfl ?_ | refine zbu rfl ?_ | refine zae 2 rfl rfl rfl rfl rfl rfl rfl ?_) | refine zch ?_ | refine zci rfl ?_)
  exact run_ret (leaves_nil (ends_pack [0, 0, 0, 0] rfl (ends_none rfl ⟨rfl, ⟨m, a, c, h⟩, s, 0, rfl, rfl, by decide, hC⟩)))
end
end Go.Proofs.YtloekplbhknepaaGreat.NM

namespace Go.Proofs.YtloekplbhknepaaGreat.NM
open Go.Vc Sim
set_option maxHeartbeats 8000000
abbrev stT (bt : Int) (wb : Nat) (K : Int) (a : Option Addr) (c : Nat) (l : List Ri) : Value := .agg (List.toArray (stC bt wb K a c l))
section
variable {bt K : Int} {m : Int → Int} {l : List Ri}
theorem step_spec (w0 : World) (sh : Shared) (wb : Nat) (hK : 0 ≤ K ∧ K ≤ 60) (a : Option Addr) (c : Nat) (kn : List (Int × Wd)) (N : Int) (hN : N ≤ 1000000) (hW : WM 544 N kn m) (h : TOk K (hsN bt) hvN m l) (d n v : Int) (hbt : 0 ≤ bt ∧ bt ≤ 255) (hn : 100 ≤ n ∧ n ≤ 115) (hd : 0 ≤ d ∧ d ≤ 255) (l' : List Ri) (hl' : stepL K (hsN bt) l d n v = l') :
    Vc.Fn PP w0 sh 41 [stT bt wb K a c l, .agg (List.toArray [.int .u8 d, .int .u8 (n - 3), .int .i64 v])] [wdA wb kn, LstT a c l]
      (fun v Γ => ∃ (st : Ts bt K l') (nb : Nat) (kn2 : List (Int × Wd)), v = .tuple #[stT bt nb K st.a st.c l', .bool true] ∧ Γ = [wdA nb kn2, LstT st.a st.c l'] ∧ WM 544 (N + 1) kn2 st.m) := by
  have hlen := (h.few hK).2.2
  refine fn_of_run en41 fn41 rfl rfl rfl ?_
  repeat (first | refine zck ?_ | refine zcl ?_ | refine zcm ?_ | refine zcn ?_)
  first | refine zcp (by kernel_rfl) ?_ | refine zcq PP_mixed (by kernel_rfl) (by kernel_rfl) ?_
  repeat' (refine zap rfl ?_; first | refine zan rfl ?_ | refine zaq (cs := [_, _, _]) rfl (fun nb => ?_) | refine zaq (cs := [_, _, _, _, _, _, _]) rfl (fun nb => ?_) | refine zar (fun nb => ?_))
  all_goals refine zch ?_
  all_goals repeat (first | refine zck ?_ | refine zcl ?_ | refine zcm ?_ | refine zcn ?_)
  rename_i xb cb
  revert nb; intro rb
  refine run_share [3] rfl ?_
  repeat (first | refine zck ?_ | refine zcl ?_ | refine zcm ?_ | refine zcn ?_)
  first | refine zcp (by kernel_rfl) ?_ | refine zcq PP_mixed (by kernel_rfl) (by kernel_rfl) ?_
  repeat' (refine zap rfl ?_; first | refine zae 4 rfl rfl rfl rfl rfl rfl rfl ?_ | refine zar (fun nb => ?_))
  all_goals refine zch ?_
  all_goals repeat (first | refine zck ?_ | refine zcl ?_ | refine zcm ?_ | refine zcn ?_)
  revert nb; intro ob
  repeat (first | refine zck ?_ | refine zcl ?_ | refine zcm ?_ | refine zcn ?_)
  first | refine zcp (by kernel_rfl) ?_ | refine zcq PP_mixed (by kernel_rfl) (by kernel_rfl) ?_
  repeat' (refine zap rfl ?_; first | refine zae 6 rfl rfl rfl rfl rfl rfl rfl ?_ | refine zan rfl ?_ | refine zaa 0 rfl rfl rfl ?_ | refine zab 2 rfl rfl rfl ?_ | refine reg_invokeE [] (nmNumN w0 bt n hn) rfl rfl rfl sub_nil rfl ?_ | refine zao rfl ?_ | refine zan rfl ?_ | refine zae 5 rfl rfl rfl rfl rfl rfl rfl ?_ | refine zar (fun nb => ?_))
  all_goals refine zch ?_
  all_goals repeat (first | refine zck ?_ | refine zcl ?_ | refine zcm ?_ | refine zcn ?_)
  rename_i mb
  revert nb; intro ib
  refine run_bind_eq2 (σ := Nat) (l' := fun hb => [(2, ptr xb), (3, ptr cb), (4, ptr rb), (6, ptr ob), (7, ptr mb), (8, ptr ib), (9, .int .i64 ((rfind l n).1 : Nat)), (10, ptr hb)])
    (Γ' := fun hb => [wdA wb kn, stB bt xb wb K a c l, pt rb (.cells (List.toArray [.map none, .nilIface, .int .i64 0, .int .i64 0, .int .i64 0, .int .i64 0, .slice none 0 0]) 46 (0, 0)), okB ob true, pt mb (intC n), pt ib (boolC true), pt hb (boolC (rfind l n).2), LstT a c l]) ?_ (fun hb junk => ?_)
  · refine run_lendE [1] rfl fun sh' hi hR => ?_
    repeat (first | refine zck ?_ | refine zcl ?_ | refine zcm ?_ | refine zcn ?_)
    first | refine zcp (by kernel_rfl) ?_ | refine zcq PP_mixed (by kernel_rfl) (by kernel_rfl) ?_
    repeat' (refine zap rfl ?_; first | refine zae 6 rfl rfl rfl rfl rfl rfl rfl ?_ | refine zan rfl ?_ | refine zan rfl ?_ | refine zab 1 rfl rfl rfl ?_ | refine zab 4 rfl rfl rfl ?_ | refine zah [] (rfFind w0 sh' a c l hR (by omega) n) rfl rfl rfl (fun _ h => h) rfl ?_ | refine zao rfl ?_ | refine zan rfl ?_ | refine zar (fun nb => ?_))
    all_goals refine zch ?_
    all_goals repeat (first | refine zck ?_ | refine zcl ?_ | refine zcm ?_ | refine zcn ?_)
    exact run_nil (show _ ∧ ∃ _, _ ∧ _ from ⟨rfl, nb, ⟨rfl, rfl, rfl, rfl, rfl, rfl, rfl, rfl, trivial⟩, rfl⟩)
  have hlk := rfind_le n l
  have hwas : wasL l n = if (rfind l n).2 = true then (match l[(rfind l n).1]? with | some x => x.v | none => 0) else 0 := rfl
  repeat refine zck ?_
  refine run_bind_eq (l' := [(2, ptr xb), (3, ptr cb), (4, ptr rb), (6, ptr ob), (7, ptr mb), (8, ptr ib), (9, .int .i64 ((rfind l n).1 : Nat)), (10, ptr hb)])
    (Γ' := [wdA wb kn, stB bt xb wb K a c l, pt rb (.cells (List.toArray [.map none, .nilIface, .int .i64 0, .int .i64 0, .int .i64 0, .int .i64 0, .slice none 0 0]) 46 (0, 0)), okB ob true, pt mb (intC n), pt ib (boolC true), pt hb (boolC (rfind l n).2), LstT a c l]) ?_ (fun junk => ?_)
  · cases hf : (rfind l n).2 with
    | true =>
      repeat (first | refine zck ?_ | refine zcl ?_ | refine zcm ?_ | refine zcn ?_)
      first | refine zcp (by kernel_rfl) ?_ | refine zcq PP_mixed (by kernel_rfl) (by kernel_rfl) ?_
      repeat' (refine zap rfl ?_; first | refine zab 6 rfl rfl rfl ?_ | refine zae 6 rfl rfl rfl rfl rfl rfl rfl ?_ | refine zaj rfl ?_ | refine zan rfl ?_ | refine zab 5 rfl rfl rfl ?_ | refine zbu rfl ?_)
      all_goals refine zch ?_
      all_goals repeat (first | refine zck ?_ | refine zcl ?_ | refine zcm ?_ | refine zcn ?_)
      exact run_nil (show _ ∧ _ ∧ _ from ⟨rfl, ⟨rfl, rfl, rfl, rfl, rfl, rfl, rfl, rfl, trivial⟩, rfl⟩)
    | false =>
      repeat (first | refine zck ?_ | refine zcl ?_ | refine zcm ?_ | refine zcn ?_)
      first | refine zcp (by kernel_rfl) ?_ | refine zcq PP_mixed (by kernel_rfl) (by kernel_rfl) ?_
      repeat' (refine zap rfl ?_; first | refine zab 6 rfl rfl rfl ?_ | refine zae 6 rfl rfl rfl rfl rfl rfl rfl ?_ | refine zak rfl ?_ | refine zan rfl ?_ | refine zbv rfl ?_)
      all_goals refine zch ?_
      all_goals repeat (first | refine zck ?_ | refine zcl ?_ | refine zcm ?_ | refine zcn ?_)
      exact run_nil (show _ ∧ _ ∧ _ from ⟨rfl, ⟨rfl, rfl, rfl, rfl, rfl, rfl, rfl, rfl, trivial⟩, rfl⟩)
  refine run_share [4] rfl ?_
  refine run_share [4] rfl ?_
  refine run_share [4] rfl ?_
  repeat (first | refine zck ?_ | refine zcl ?_ | refine zcm ?_ | refine zcn ?_)
  first | refine zcp (by kernel_rfl) ?_ | refine zcq PP_mixed (by kernel_rfl) (by kernel_rfl) ?_
  repeat' (refine zap rfl ?_; first | refine zae 5 rfl rfl rfl rfl rfl rfl rfl ?_ | refine zar (fun nb => ?_))
  all_goals refine zch ?_
  all_goals repeat (first | refine zck ?_ | refine zcl ?_ | refine zcm ?_ | refine zcn ?_)
  revert nb; intro ab
  refine run_take [0, 0, 0, 0, 1, 0] rfl ?_
  repeat (first | refine zck ?_ | refine zcl ?_ | refine zcm ?_ | refine zcn ?_)
  first | refine zcp (by kernel_rfl) ?_ | refine zcq PP_mixed (by kernel_rfl) (by kernel_rfl) ?_
  repeat' (refine zap rfl ?_; first | refine zaa 0 rfl rfl rfl ?_)
  all_goals refine zch ?_
  all_goals repeat (first | refine zck ?_ | refine zcl ?_ | refine zcm ?_ | refine zcn ?_)
  repeat refine zck ?_
  refine run_bind_eq (l' := [(2, ptr xb), (3, ptr cb), (4, ptr rb), (6, ptr ob), (7, ptr mb), (8, ptr ib), (10, ptr hb), (11, ptr ab)])
    (Γ' := [wdA wb kn, stB bt xb wb K a c l, pt rb (.cells (List.toArray [.map none, .nilIface, .int .i64 0, .int .i64 0, .int .i64 0, .int .i64 0, .slice none 0 0]) 46 (0, 0)), okB ob true, pt ab (intC (wasL l n)), LstT a c l]) ?_ (fun junk => ?_)
  · cases hf : (rfind l n).2 with
    | true =>
      rw [hf, if_pos rfl] at hwas
      have hlt := hlk.2 hf
      have hx : l[(rfind l n).1]? = some l[(rfind l n).1] := List.getElem?_eq_getElem hlt
      rw [hx] at hwas
      dsimp only at hwas
      generalize l[(rfind l n).1] = x at hx hwas
      refine run_lendE [5] rfl fun sh' hi hR => ?_
      obtain ⟨b, off, cc, TT, fr, rfl, hh, _, hcx⟩ := hR.cells hx
      have hc2 := hcx 2 _ rfl
      refine zci rfl ?_
      repeat (first | refine zck ?_ | refine zcl ?_ | refine zcm ?_ | refine zcn ?_)
      first | refine zcp (by kernel_rfl) ?_ | refine zcq PP_mixed (by kernel_rfl) (by kernel_rfl) ?_
      repeat' (refine zap rfl ?_; first | refine zad rfl hh (hc2 _ (by omega)) ?_ | refine zan rfl ?_ | refine zab 1 rfl rfl rfl ?_ | refine zao rfl ?_ | refine zae 4 rfl rfl rfl rfl rfl rfl rfl ?_ | refine zas rfl rfl (by omega) ?_)
      all_goals refine zch ?_
      all_goals repeat (first | refine zck ?_ | refine zcl ?_ | refine zcm ?_ | refine zcn ?_)
      rw [hwas]
      exact run_nil (show _ ∧ _ ∧ _ from ⟨rfl, ⟨rfl, rfl, rfl, rfl, rfl, rfl, rfl, rfl, trivial⟩, rfl⟩)
    | false =>
      rw [hf, if_neg (by decide)] at hwas
      rw [hwas]
      refine zcj rfl ?_
      refine zcm ?_
      exact run_nil (show _ ∧ _ ∧ _ from ⟨rfl, ⟨rfl, rfl, rfl, rfl, rfl, rfl, rfl, rfl, trivial⟩, rfl⟩)
  refine run_share [4] rfl ?_
  have hD := (done_mem (σ := Ts bt K l') w0 ((ab, intC (wasL l n)) :: (hb, boolC (rfind l n).2) :: (ib, boolC true) :: (mb, intC n) :: (cb, clC d n v) :: sh) wb kn 544 N m hN hW 73 (List.toArray [ptr cb, ptr xb, ptr ab, ptr hb, ptr ob, ptr ib, ptr mb]) (StarsA [stB bt xb wb K a c l, okB ob true, LstT a c l]) (fun st => StarsA [stB bt xb wb K st.a st.c l', okB ob true, LstT st.a st.c l']) (fun st => st.m)
    (fun p s hC _ => (step1_spec w0 _ p cb xb ab hb ob ib mb wb hK a c s hC h d n v hbt hn hd (.tail _ (.tail _ (.tail _ (.tail _ (.head _))))) (.head _) (.tail _ (.head _)) (.tail _ (.tail _ (.head _))) (.tail _ (.tail _ (.tail _ (.head _)))) l' hl').mono (fun v Γ ⟨st, s', j, e1, e2, e3, e4⟩ => ⟨st, s', j, e1, e2, e3, e4⟩))).unpack
    (R' := fun v Γ => ∃ (st : Ts bt K l') (nb : Nat) (a : Option Addr) (len c : Nat) (kn2 : List (Int × Wd)), v = .tuple #[.map (some nb), .slice a len c, .bool true] ∧ Γ = [wdA nb kn2, stB bt xb wb K st.a st.c l', okB ob true, LstT st.a st.c l'] ∧ WM 544 (N + 1) kn2 st.m)
    (fun v Γ ⟨st, nb, a, len, c, kn2, e1, e2, e3⟩ => ⟨_, _, e2, st, nb, a, len, c, kn2, e1, rfl, e3⟩)
  refine run_share [0] rfl ?_
  repeat (first | refine zck ?_ | refine zcl ?_ | refine zcm ?_ | refine zcn ?_)
  first | refine zcp (by kernel_rfl) ?_ | refine zcq PP_mixed (by kernel_rfl) (by kernel_rfl) ?_
  repeat' (refine zap rfl ?_; first | refine zan rfl ?_ | refine zan rfl ?_ | refine zab 0 rfl rfl rfl ?_ | (refine zai [0, 1, 1] hD rfl rfl rfl (fun _ h => h) ?_; rintro v Γ' ⟨st, nb, wa, wl, wc, kn2, rfl, rfl, hW2⟩) | refine zao rfl ?_ | refine zan rfl ?_ | refine zan rfl ?_)
  all_goals refine zch ?_
  all_goals repeat (first | refine zck ?_ | refine zcl ?_ | refine zcm ?_ | refine zcn ?_)
  repeat' (first | refine zck ?_ | refine zcp (by kernel_rfl) ?_ | (refine zap rfl ?_; first | refine zaj rfl ?_ | refine zan rfl ?_ | refine zan rfl ?_ | refine zab 1 rfl rfl rfl ?_ | refine zab 2 rfl rfl rfl ?_ | refine zao rfl ?_ | refine zbu rfl ?_ | refine zae 1 rfl rfl rfl rfl rfl rfl rfl ?_ | refine zae 4 rfl rfl rfl rfl rfl rfl rfl ?_) | refine zch ?_)
  exact run_ret (leaves_nil (ends_take [0, 2] rfl (ends_two rfl (resOk_pt 4 rfl rfl rfl) rfl ⟨rfl, st, nb, kn2, rfl, rfl, hW2⟩)))
end
end Go.Proofs.YtloekplbhknepaaGreat.NM

namespace Go.Proofs.YtloekplbhknepaaGreat.NM
open Go.Vc Sim
set_option maxHeartbeats 8000000
section
variable {bt K : Int} {m : Int → Int} {l : List Ri}
theorem step_spec0 (w0 : World) (sh : Shared) (wb : Nat) (hK : 0 ≤ K ∧ K ≤ 60) (a : Option Addr) (c : Nat) (kn : List (Int × Wd)) (N : Int) (hN : N ≤ 1000000) (hW : WM 544 N kn m) (h : TOk K (hsN bt) hvN m l) (d x v : Int) (hx : ¬ (97 ≤ x ∧ x ≤ 112)) (hd : 0 ≤ d ∧ d ≤ 255) :
    Vc.Fn PP w0 sh 41 [stT bt wb K a c l, .agg (List.toArray [.int .u8 d, .int .u8 x, .int .i64 v])] [wdA wb kn, LstT a c l]
      (fun v Γ => ∃ (st : Ts bt K l) (nb : Nat) (kn2 : List (Int × Wd)), v = .tuple #[stT bt nb K st.a st.c l, .bool true] ∧ Γ = [wdA nb kn2, LstT st.a st.c l] ∧ WM 544 (N + 1) kn2 st.m) := by
  have hlen := (h.few hK).2.2
  refine fn_of_run en41 fn41 rfl rfl rfl ?_
  repeat (first | refine zck ?_ | refine zcl ?_ | refine zcm ?_ | refine zcn ?_)
  first | refine zcp (by kernel_rfl) ?_ | refine zcq PP_mixed (by kernel_rfl) (by kernel_rfl) ?_
  repeat' (refine zap rfl ?_; first | refine zan rfl ?_ | refine zaq (cs := [_, _, _]) rfl (fun nb => ?_) | refine zaq (cs := [_, _, _, _, _, _, _]) rfl (fun nb => ?_) | refine zar (fun nb => ?_))
  all_goals refine zch ?_
  all_goals repeat (first | refine zck ?_ | refine zcl ?_ | refine zcm ?_ | refine zcn ?_)
  rename_i xb cb
  revert nb; intro rb
  refine run_share [3] rfl ?_
  repeat (first | refine zck ?_ | refine zcl ?_ | refine zcm ?_ | refine zcn ?_)
  first | refine zcp (by kernel_rfl) ?_ | refine zcq PP_mixed (by kernel_rfl) (by kernel_rfl) ?_
  repeat' (refine zap rfl ?_; first | refine zae 4 rfl rfl rfl rfl rfl rfl rfl ?_ | refine zar (fun nb => ?_))
  all_goals refine zch ?_
  all_goals repeat (first | refine zck ?_ | refine zcl ?_ | refine zcm ?_ | refine zcn ?_)
  revert nb; intro ob
  repeat (first | refine zck ?_ | refine zcl ?_ | refine zcm ?_ | refine zcn ?_)
  first | refine zcp (by kernel_rfl) ?_ | refine zcq PP_mixed (by kernel_rfl) (by kernel_rfl) ?_
  repeat' (refine zap rfl ?_; first | refine zae 6 rfl rfl rfl rfl rfl rfl rfl ?_ | refine zan rfl ?_ | refine zaa 0 rfl rfl rfl ?_ | refine zab 2 rfl rfl rfl ?_ | refine reg_invokeE [] (nmNum0 w0 bt x hx) rfl rfl rfl sub_nil rfl ?_ | refine zao rfl ?_ | refine zan rfl ?_ | refine zae 5 rfl rfl rfl rfl rfl rfl rfl ?_ | refine zar (fun nb => ?_))
  all_goals refine zch ?_
  all_goals repeat (first | refine zck ?_ | refine zcl ?_ | refine zcm ?_ | refine zcn ?_)
  rename_i mb
  revert nb; intro ib
  refine run_bind_eq2 (σ := Nat) (l' := fun hb => [(2, ptr xb), (3, ptr cb), (4, ptr rb), (6, ptr ob), (7, ptr mb), (8, ptr ib), (9, .int .i64 ((rfind l 0).1 : Nat)), (10, ptr hb)])
    (Γ' := fun hb => [wdA wb kn, stB bt xb wb K a c l, pt rb (.cells (List.toArray [.map none, .nilIface, .int .i64 0, .int .i64 0, .int .i64 0, .int .i64 0, .slice none 0 0]) 46 (0, 0)), okB ob true, pt mb (intC 0), pt ib (boolC false), pt hb (boolC (rfind l 0).2), LstT a c l]) ?_ (fun hb junk => ?_)
  · refine run_lendE [1] rfl fun sh' hi hR => ?_
    repeat (first | refine zck ?_ | refine zcl ?_ | refine zcm ?_ | refine zcn ?_)
    first | refine zcp (by kernel_rfl) ?_ | refine zcq PP_mixed (by kernel_rfl) (by kernel_rfl) ?_
    repeat' (refine zap rfl ?_; first | refine zae 6 rfl rfl rfl rfl rfl rfl rfl ?_ | refine zan rfl ?_ | refine zan rfl ?_ | refine zab 1 rfl rfl rfl ?_ | refine zab 4 rfl rfl rfl ?_ | refine zah [] (rfFind w0 sh' a c l hR (by omega) 0) rfl rfl rfl (fun _ h => h) rfl ?_ | refine zao rfl ?_ | refine zan rfl ?_ | refine zar (fun nb => ?_))
    all_goals refine zch ?_
    all_goals repeat (first | refine zck ?_ | refine zcl ?_ | refine zcm ?_ | refine zcn ?_)
    exact run_nil (show _ ∧ ∃ _, _ ∧ _ from ⟨rfl, nb, ⟨rfl, rfl, rfl, rfl, rfl, rfl, rfl, rfl, trivial⟩, rfl⟩)
  repeat refine zck ?_
  refine run_bind_eq (l' := [(2, ptr xb), (3, ptr cb), (4, ptr rb), (6, ptr ob), (7, ptr mb), (8, ptr ib), (9, .int .i64 ((rfind l 0).1 : Nat)), (10, ptr hb)])
    (Γ' := [wdA wb kn, stB bt xb wb K a c l, pt rb (.cells (List.toArray [.map none, .nilIface, .int .i64 0, .int .i64 0, .int .i64 0, .int .i64 0, .slice none 0 0]) 46 (0, 0)), okB ob true, pt mb (intC 0), pt ib (boolC false), pt hb (boolC false), LstT a c l]) ?_ (fun junk => ?_)
  · cases hf : (rfind l 0).2 with
    | true =>
      repeat (first | refine zck ?_ | refine zcl ?_ | refine zcm ?_ | refine zcn ?_)
      first | refine zcp (by kernel_rfl) ?_ | refine zcq PP_mixed (by kernel_rfl) (by kernel_rfl) ?_
      repeat' (refine zap rfl ?_; first | refine zab 6 rfl rfl rfl ?_ | refine zae 6 rfl rfl rfl rfl rfl rfl rfl ?_ | refine zaj rfl ?_ | refine zan rfl ?_ | refine zab 5 rfl rfl rfl ?_ | refine zbu rfl ?_)
      all_goals refine zch ?_
      all_goals repeat (first | refine zck ?_ | refine zcl ?_ | refine zcm ?_ | refine zcn ?_)
      exact run_nil (show _ ∧ _ ∧ _ from ⟨rfl, ⟨rfl, rfl, rfl, rfl, rfl, rfl, rfl, rfl, trivial⟩, rfl⟩)
    | false =>
      repeat (first | refine zck ?_ | refine zcl ?_ | refine zcm ?_ | refine zcn ?_)
      first | refine zcp (by kernel_rfl) ?_ | refine zcq PP_mixed (by kernel_rfl) (by kernel_rfl) ?_
      repeat' (refine zap rfl ?_; first | refine zab 6 rfl rfl rfl ?_ | refine zae 6 rfl rfl rfl rfl rfl rfl rfl ?_ | refine zak rfl ?_ | refine zan rfl ?_ | refine zbv rfl ?_)
      all_goals refine zch ?_
      all_goals repeat (first | refine zck ?_ | refine zcl ?_ | refine zcm ?_ | refine zcn ?_)
      exact run_nil (show _ ∧ _ ∧ _ from ⟨rfl, ⟨rfl, rfl, rfl, rfl, rfl, rfl, rfl, rfl, trivial⟩, rfl⟩)
  refine run_share [4] rfl ?_
  refine run_share [4] rfl ?_
  refine run_share [4] rfl ?_
  repeat (first | refine zck ?_ | refine zcl ?_ | refine zcm ?_ | refine zcn ?_)
  first | refine zcp (by kernel_rfl) ?_ | refine zcq PP_mixed (by kernel_rfl) (by kernel_rfl) ?_
  repeat' (refine zap rfl ?_; first | refine zae 5 rfl rfl rfl rfl rfl rfl rfl ?_ | refine zar (fun nb => ?_))
  all_goals refine zch ?_
  all_goals repeat (first | refine zck ?_ | refine zcl ?_ | refine zcm ?_ | refine zcn ?_)
  revert nb; intro ab
  refine run_take [0, 0, 0, 0, 1, 0] rfl ?_
  repeat (first | refine zck ?_ | refine zcl ?_ | refine zcm ?_ | refine zcn ?_)
  first | refine zcp (by kernel_rfl) ?_ | refine zcq PP_mixed (by kernel_rfl) (by kernel_rfl) ?_
  repeat' (refine zap rfl ?_; first | refine zaa 0 rfl rfl rfl ?_)
  all_goals refine zch ?_
  all_goals repeat (first | refine zck ?_ | refine zcl ?_ | refine zcm ?_ | refine zcn ?_)
  repeat refine zck ?_
  refine run_bind_eq (l' := [(2, ptr xb), (3, ptr cb), (4, ptr rb), (6, ptr ob), (7, ptr mb), (8, ptr ib), (10, ptr hb), (11, ptr ab)])
    (Γ' := [wdA wb kn, stB bt xb wb K a c l, pt rb (.cells (List.toArray [.map none, .nilIface, .int .i64 0, .int .i64 0, .int .i64 0, .int .i64 0, .slice none 0 0]) 46 (0, 0)), okB ob true, pt ab (intC 0), LstT a c l]) ?_ (fun junk => ?_)
  · refine zcj rfl ?_
    refine zcm ?_
    exact run_nil (show _ ∧ _ ∧ _ from ⟨rfl, ⟨rfl, rfl, rfl, rfl, rfl, rfl, rfl, rfl, trivial⟩, rfl⟩)
  refine run_share [4] rfl ?_
  have hD := (done_mem (σ := Ts bt K l) w0 ((ab, intC 0) :: (hb, boolC false) :: (ib, boolC false) :: (mb, intC 0) :: (cb, clC0 d x v) :: sh) wb kn 544 N m hN hW 73 (List.toArray [ptr cb, ptr xb, ptr ab, ptr hb, ptr ob, ptr ib, ptr mb]) (StarsA [stB bt xb wb K a c l, okB ob true, LstT a c l]) (fun st => StarsA [stB bt xb wb K st.a st.c l, okB ob true, LstT st.a st.c l]) (fun st => st.m)
    (fun p s hC _ => (step1_0 w0 _ p cb xb ab hb ob ib mb wb a c s hC h d x v hx hd (.tail _ (.tail _ (.tail _ (.tail _ (.head _))))) (.head _) (.tail _ (.head _)) (.tail _ (.tail _ (.head _)))).mono (fun v Γ ⟨st, s', j, e1, e2, e3, e4⟩ => ⟨st, s', j, e1, e2, e3, e4⟩))).unpack
    (R' := fun v Γ => ∃ (st : Ts bt K l) (nb : Nat) (a : Option Addr) (len c : Nat) (kn2 : List (Int × Wd)), v = .tuple #[.map (some nb), .slice a len c, .bool true] ∧ Γ = [wdA nb kn2, stB bt xb wb K st.a st.c l, okB ob true, LstT st.a st.c l] ∧ WM 544 (N + 1) kn2 st.m)
    (fun v Γ ⟨st, nb, a, len, c, kn2, e1, e2, e3⟩ => ⟨_, _, e2, st, nb, a, len, c, kn2, e1, rfl, e3⟩)
  refine run_share [0] rfl ?_
  repeat (first | refine zck ?_ | refine zcl ?_ | refine zcm ?_ | refine zcn ?_)
  first | refine zcp (by kernel_rfl) ?_ | refine zcq PP_mixed (by kernel_rfl) (by kernel_rfl) ?_
  repeat' (refine zap rfl ?_; first | refine zan rfl ?_ | refine zan rfl ?_ | refine zab 0 rfl rfl rfl ?_ | (refine zai [0, 1, 1] hD rfl rfl rfl (fun _ h => h) ?_; rintro v Γ' ⟨st, nb, wa, wl, wc, kn2, rfl, rfl, hW2⟩) | refine zao rfl ?_ | refine zan rfl ?_ | refine zan rfl ?_)
  all_goals refine zch ?_
  all_goals repeat (first | refine zck ?_ | refine zcl ?_ | refine zcm ?_ | refine zcn ?_)
  repeat' (first | refine zck ?_ | refine zcp (by kernel_rfl) ?_ | (refine zap rfl ?_; first | refine zaj rfl ?_ | refine zan rfl ?_ | refine zan rfl ?_ | refine zab 1 rfl rfl rfl ?_ | refine zab 2 rfl rfl rfl ?_ | refine zao rfl ?_ | refine zbu rfl ?_ | refine zae 1 rfl rfl rfl rfl rfl rfl rfl ?_ | refine zae 4 rfl rfl rfl rfl rfl rfl rfl ?_) | refine zch ?_)
  exact run_ret (leaves_nil (ends_take [0, 2] rfl (ends_two rfl (resOk_pt 4 rfl rfl rfl) rfl ⟨rfl, st, nb, kn2, rfl, rfl, hW2⟩)))
end
end Go.Proofs.YtloekplbhknepaaGreat.NM

namespace Go.Proofs.YtloekplbhknepaaGreat.NM
open Go.Vc Sim
set_option maxHeartbeats 8000000
section
variable {bt K : Int} {m : Int → Int} {l : List Ri}
theorem walkN_ok {bt K : Int} {m : Int → Int} {l : List Ri} (hK : 0 ≤ K ∧ K ≤ 60) (h : TOk K (hsN bt) hvN m l) : Pg.Ok 544 (walkN (tN bt K)) m fun r m' => r = (l.map fun x => (x.n, x.v), 0) ∧ m' = m := by
  have hv := h.hh
  obtain ⟨I, B, Q, M, hT, A⟩ := h
  unfold walkN
  refine Pg.Ok.bind _ (Tr.walk_ok hK M) ?_
  rintro r m' ⟨rfl, h1, h2⟩
  rw [if_pos h1]
  obtain ⟨s1, s2⟩ := SF.sortP_holds r.1.1
  have e : SF.sortP r.1.1 = l.map fun x => (x.n, x.v) := by
    refine sorted_one _ _ (s1.trans (h2.trans ?_)) s2 ?_
    · have := (A.pm.map fun x : Ri => (x.n, x.v)).symm
      rw [List.map_map] at this
      exact this
    · rw [List.pairwise_map]
      exact A.up
  have ha : ((SF.sortP r.1.1).all fun x => hvN x.1) = true := by
    rw [e, List.all_eq_true]
    intro y hy
    obtain ⟨x, hx, rfl⟩ := List.mem_map.1 hy
    exact (hv x hx).2.1
  rw [if_pos ha]
  exact Pg.Ok.pure ⟨by rw [e], rfl⟩
theorem is1_spec (w0 : World) (sh : Shared) (p xb ob wb : Nat) (hK : 0 ≤ K ∧ K ≤ 60) (a : Option Addr) (c : Nat) (s : Sp) (hC : Cu 544 s s m 0) (h : TOk K (hsN bt) hvN m l) (hxb : (xb, .cells (List.toArray (stC bt wb K a c l)) 46 (0, 0)) ∈ sh) (hR : RdSl w0 sh encT 3 (.slice a l.length c) l) :
    Vc.Fn PP w0 sh 77 [spP p, ptr xb, ptr ob] [SpaceA p s, okB ob true]
      (fun v Γ => ∃ (s' : Sp), v = .tuple #[] ∧ Γ = [SpaceA p s', okB ob true] ∧ Cu 544 s s' m 0) := by
  have hT := tN_ok (bt := bt) hK
  have hlen := (h.few hK).2.2
  have hh0 : ∀ x ∈ l, 0 ≤ x.h := fun x hx => (h.hh x hx).2.2
  have hmx : ∀ hF Γ w, Sh sh hF → St w0 hF Γ w → w.heap[xb]? = some (.cells (List.toArray (stC bt wb K a c l)) 46 (0, 0)) := fun hF Γ w h1 h2 => (h2.frame (h1 _ hxb)).2
  have hNd := rfNodes w0 sh a c l hR (by omega) hh0
  have hL : (l.map fun x : Ri => (x.n, x.v)).length = l.length := List.length_map _
  refine fn_of_run en77 fn77 rfl rfl rfl ?_
  repeat (first | refine zck ?_ | refine zcl ?_ | refine zcm ?_ | refine zcn ?_)
  first | refine zcp (by kernel_rfl) ?_ | refine zcq PP_mixed (by kernel_rfl) (by kernel_rfl) ?_
  repeat' (refine zap rfl ?_; first | refine zad rfl hmx rfl ?_ | refine zan rfl ?_ | refine zan rfl ?_ | (refine reg_callOX [0] hC (bd_walkN (tN bt K)) (walkN_ok hK h) (by omega) (trWalk w0 bt p (tN bt K) hT) rfl rfl rfl sub_nil ?_; rintro x s1 m1 v Γ1 ⟨rfl, em⟩ hC ⟨a1, c1, a2, c2, rfl, rfl⟩; rw [em] at hC) | refine zao rfl ?_ | refine zan rfl ?_)
  all_goals refine zch ?_
  all_goals repeat (first | refine zck ?_ | refine zcl ?_ | refine zcm ?_ | refine zcn ?_)
  rw [hL]
  refine run_shareV [1] rfl fun sh' hi hk1 hr1 => ?_
  refine run_shareV [1] rfl fun sh2 hi2 hk2 hr2 => ?_
  have hmx2 : ∀ hF Γ w, Sh sh2 hF → St w0 hF Γ w → w.heap[xb]? = some (.cells (List.toArray (stC bt wb K a c l)) 46 (0, 0)) := fun hF Γ w h1 h2 => (h2.frame (h1 _ (hi2 _ (hi _ hxb)))).2
  have hNd := hNd.share (fun p hp => hi2 _ (hi _ hp))
  repeat (first | refine zck ?_ | refine zcl ?_ | refine zcm ?_ | refine zcn ?_)
  first | refine zcp (by kernel_rfl) ?_ | refine zcq PP_mixed (by kernel_rfl) (by kernel_rfl) ?_
  repeat' (refine zap rfl ?_; first | refine zad rfl hmx2 rfl ?_ | refine zaj rfl ?_ | refine zan rfl ?_ | (refine reg_callO [0] hC (Pg.bd_gt0 17) h.len (by omega) (trLen w0 bt p (tN bt K) hT) rfl rfl rfl sub_nil ?_; rintro x s1 m1 ⟨rfl, em⟩ hC; rw [em] at hC) | (refine reg_callO [0] hC (Pg.bd_gt0 23) h.nod (by omega) (getG w0 p 23) rfl rfl rfl sub_nil ?_; rintro x s3 m3 ⟨rfl, em⟩ hC; rw [em] at hC) | refine zah [] hNd rfl rfl rfl (fun _ h => h) rfl ?_ | refine zce rfl ?_ | refine zao rfl ?_ | refine zbc rfl rfl (by omega) ?_ | refine zbu rfl ?_ | refine zae 1 rfl rfl rfl rfl rfl rfl rfl ?_)
  all_goals refine zch ?_
  all_goals repeat (first | refine zck ?_ | refine zcl ?_ | refine zcm ?_ | refine zcn ?_)
  have hR2 : RdSl w0 sh2 encT 3 (.slice a l.length c) l := hR.mono (fun p hp => hi2 _ (hi _ hp))
  have hr1' : ∀ (j : Nat) (x : Ri), l[j]? = some x → ∃ bb c T fr, a1 = some ⟨bb, 0, none⟩ ∧ (∀ hF Γ w, Sh sh2 hF → St w0 hF Γ w → w.heap[bb]? = some (.cells c T fr)) ∧ c[j]? = some (.int .u8 (x.n - 3)) := fun j x hx => by
    obtain ⟨bb, cc, TT, fr, e1, e2, e3⟩ := hr1 j (.int .u8 (x.n - 3)) (by simp [nmsV, hx])
    exact ⟨bb, cc, TT, fr, e1, fun hF Γ w h1 h2 => e2 hF Γ w (fun q hq => h1 q (hi2 _ hq)) h2, e3⟩
  have hr2' : ∀ (j : Nat) (x : Ri), l[j]? = some x → ∃ bb c T fr, a2 = some ⟨bb, 0, none⟩ ∧ (∀ hF Γ w, Sh sh2 hF → St w0 hF Γ w → w.heap[bb]? = some (.cells c T fr)) ∧ c[j]? = some (.int .i64 x.v) := fun j x hx => hr2 j (.int .i64 x.v) (by simp [intsV, hx])
  clear hr1 hr2
  repeat (first | refine zck ?_ | refine zcl ?_ | refine zcm ?_ | refine zcn ?_)
  first | refine zcp (by kernel_rfl) ?_ | refine zcq PP_mixed (by kernel_rfl) (by kernel_rfl) ?_
  repeat' (refine zap rfl ?_; first | refine zan rfl ?_)
  all_goals refine zch ?_
  all_goals repeat (first | refine zck ?_ | refine zcl ?_ | refine zcm ?_ | refine zcn ?_)
  refine run_slots [(0, spP p), (1, ptr xb), (2, ptr ob), (4, .slice a1 l.length c1), (5, .slice a2 l.length c2), (7, .int .i64 0)] ⟨rfl, rfl, rfl, rfl, rfl, rfl, trivial⟩ (fun junk => ?_)
  refine run_loop (S := Nat) (fun st => [(0, spP p), (1, ptr xb), (2, ptr ob), (4, .slice a1 l.length c1), (5, .slice a2 l.length c2), (7, .int .i64 (st : Int))])
    (fun st Γ => Γ = [SpaceA p s3, okB ob true] ∧ st ≤ l.length) (fun st => l.length - st) 0 ⟨rfl, rfl, rfl, rfl, rfl, rfl, trivial⟩ ⟨rfl, Nat.zero_le _⟩ ?_
  rintro i Γ junk ⟨rfl, hi⟩
  by_cases hlt : i < l.length
  · have hx : l[i]? = some l[i] := List.getElem?_eq_getElem hlt
    generalize l[i] = x at hx
    obtain ⟨b, off, cc, TT, fr, rfl, hh, _, hcx⟩ := hR2.cells hx
    have hc0 := hcx 0 _ rfl
    have hc2 := hcx 2 _ rfl
    obtain ⟨b1, cc1, T1, fr1, rfl, hm1, hg1⟩ := hr1' i x hx
    have hn1 : ∀ o, o = i → rd true 1 cc1.toList o = some (nmV (x.n - 3)) := fun o ho => rd_cells (vs := [.int .u8 (x.n - 3)]) rfl (fun k u hu => by cases k with | zero => simp at hu; subst hu; exact hg1 | succ k => simp at hu) o ho
    have hx15 : 100 ≤ x.n ∧ x.n ≤ 115 := of_decide_eq_true (h.hh x (List.mem_of_getElem? hx)).2.1
    obtain ⟨b2, cc2, T2, fr2, rfl, hm2, hg2⟩ := hr2' i x hx
    repeat' (first | refine zck ?_ | refine zcp (by kernel_rfl) ?_ | refine zcq PP_mixed (by kernel_rfl) (by kernel_rfl) ?_ | refine zcm ?_ | refine zcl ?_ | refine zcn ?_ | (refine zap rfl ?_; first | refine zad rfl hmx2 rfl ?_ | refine zad rfl hm1 (hn1 _ (by omega)) ?_ | refine zad rfl hm2 (rd_one hg2 _ (by omega)) ?_ | refine zad rfl hh (hc0 _ (by omega)) ?_ | refine zad rfl hh (hc2 _ (by omega)) ?_ | refine reg_nilI rfl ?_ | refine zaj rfl ?_ | refine zan rfl ?_ | refine zan rfl ?_ | refine zab 1 rfl rfl rfl ?_ | refine reg_invokeE [] (nmNumN w0 bt _ hx15) rfl rfl rfl sub_nil rfl ?_ | refine zce rfl ?_ | refine zao rfl ?_ | refine zan rfl ?_ | refine zbc rfl rfl (by omega) ?_ | refine zbg rfl rfl (by omega) ?_ | refine zau rfl rfl (by omega) ?_ | refine zbu rfl ?_ | refine zae 1 rfl rfl rfl rfl rfl rfl rfl ?_ | refine zas rfl rfl (by omega) ?_) | refine zch ?_ | refine zci rfl ?_)
    exact cut_end ⟨rfl, i + 1, ⟨rfl, rfl, rfl, rfl, rfl, int_eq (by omega), trivial⟩, ⟨rfl, hlt⟩, by omega⟩
  · repeat' (first | refine zck ?_ | refine zcp (by kernel_rfl) ?_ | (refine zap rfl ?_; first | refine zaj rfl ?_ | refine zan rfl ?_ | refine zab 1 rfl rfl rfl ?_ | refine zce rfl ?_ | refine zbh rfl rfl (by omega) ?_ | refine zbu rfl ?_) | refine zch ?_ | refine zcj rfl ?_)
    refine cut_exit rfl rfl ?_
    repeat' (first | refine zcp (by kernel_rfl) ?_ | (refine zap rfl ?_; first | refine zaj rfl ?_ | refine zan rfl ?_ | refine zab 1 rfl rfl rfl ?_ | (refine zai [0] (writes_spec w0 p s3 (by have := hC.few; omega)) rfl rfl rfl sub_nil ?_; rintro v Γ' ⟨wa, wcap, rfl, rfl⟩; have hw0 : s3.writes.length = 0 := Sp.writes_len0.2 (List.length_eq_zero_iff.1 (by have := hC.few; omega))) | refine zce rfl ?_ | refine zbc rfl rfl (by omega) ?_ | refine zbu rfl ?_ | refine zae 2 rfl rfl rfl rfl rfl rfl rfl ?_) | refine zch ?_)
    exact run_nil (leaves_nil (ends_take [0, 1] rfl (ends_none rfl ⟨rfl, s3, rfl, rfl, hC⟩)))
end
end Go.Proofs.YtloekplbhknepaaGreat.NM

namespace Go.Proofs.YtloekplbhknepaaGreat.NM
open Go.Vc Sim
set_option maxHeartbeats 8000000
section
variable {bt K : Int} {m : Int → Int} {l : List Ri}
theorem is_spec (w0 : World) (sh : Shared) (wb : Nat) (hK : 0 ≤ K ∧ K ≤ 60) (a : Option Addr) (c : Nat) (kn : List (Int × Wd)) (N : Int) (hN : N ≤ 1000000) (hW : WM 544 N kn m) (h : TOk K (hsN bt) hvN m l) :
    Vc.Fn PP w0 sh 42 [stT bt wb K a c l] [wdA wb kn, LstT a c l] (fun v Γ => v = .bool true ∧ Γ = [wdA wb kn, LstT a c l]) := by
  refine fn_of_run en42 fn42 rfl rfl rfl ?_
  refine run_share_keep [0] rfl ?_
  refine run_lendE [0] rfl fun sh' hi hR => ?_
  have hwb : (wb, mapI (knM kn)) ∈ sh' := hi _ (.head _)
  repeat (first | refine zck ?_ | refine zcl ?_ | refine zcm ?_ | refine zcn ?_)
  first | refine zcp (by kernel_rfl) ?_ | refine zcq PP_mixed (by kernel_rfl) (by kernel_rfl) ?_
  repeat' (refine zap rfl ?_; first | refine zan rfl ?_ | refine zaq (cs := [_, _, _, _, _, _, _]) rfl (fun nb => ?_))
  all_goals refine zch ?_
  all_goals repeat (first | refine zck ?_ | refine zcl ?_ | refine zcm ?_ | refine zcn ?_)
  revert nb; intro xb
  refine run_share [0] rfl ?_
  repeat (first | refine zck ?_ | refine zcl ?_ | refine zcm ?_ | refine zcn ?_)
  first | refine zcp (by kernel_rfl) ?_ | refine zcq PP_mixed (by kernel_rfl) (by kernel_rfl) ?_
  repeat' (refine zap rfl ?_; first | refine zae 0 rfl rfl rfl rfl rfl rfl rfl ?_ | refine zar (fun nb => ?_))
  all_goals refine zch ?_
  all_goals repeat (first | refine zck ?_ | refine zcl ?_ | refine zcm ?_ | refine zcn ?_)
  revert nb; intro ob
  have hD := done_mem (σ := Unit) w0 ((xb, .cells (List.toArray (stC bt wb K a c l)) 46 (0, 0)) :: sh') wb kn 544 N m hN hW 77 (List.toArray [ptr xb, ptr ob]) (okB ob true) (fun _ => okB ob true) (fun _ => m)
    (fun p s hC _ => (is1_spec w0 _ p xb ob wb hK a c s hC h (.head _) (hR.mono fun _ h => .tail _ h)).mono (fun v Γ ⟨s', e1, e2, e3⟩ => ⟨(), s', 0, e1, e2, by decide, e3⟩))
  repeat (first | refine zck ?_ | refine zcl ?_ | refine zcm ?_ | refine zcn ?_)
  first | refine zcp (by kernel_rfl) ?_ | refine zcq PP_mixed (by kernel_rfl) (by kernel_rfl) ?_
  repeat' (refine zap rfl ?_; first | refine zan rfl ?_ | refine zan rfl ?_ | refine zaa 0 rfl rfl rfl ?_ | (refine zai [0] hD rfl rfl rfl (fun p hp => by rcases List.mem_cons.1 hp with e | hp <;> first | (subst e; exact .tail _ hwb) | exact hp) ?_; rintro v Γ' ⟨_, nb, wa, wl, wc, kn2, rfl, rfl, hW2⟩) | refine zao rfl ?_ | refine zan rfl ?_ | refine zan rfl ?_)
  all_goals refine zch ?_
  all_goals repeat (first | refine zck ?_ | refine zcl ?_ | refine zcm ?_ | refine zcn ?_)
  have hA := alike_spec w0 nb wb kn2 kn
  rw [alike_same hW2 hW] at hA
  refine run_share [0] rfl ?_
  repeat' (first | refine zcp (by kernel_rfl) ?_ | (refine zap rfl ?_; first | refine zaj rfl ?_ | refine zan rfl ?_ | refine zan rfl ?_ | refine zaa 1 rfl rfl rfl ?_ | refine zab 0 rfl rfl rfl ?_ | refine zah [] hA rfl rfl rfl (fun p hp => by rcases List.mem_cons.1 hp with e | hp <;> first | (subst e; exact .head _) | (rw [List.mem_singleton.1 hp]; exact .tail _ (.tail _ hwb))) rfl ?_ | refine zao rfl ?_ | refine zbu rfl ?_) | refine zch ?_)
  exact run_ret (leaves_nil (ends_take [2, 1] rfl (ends_one rfl rfl ⟨rfl, rfl, rfl⟩)))
end
end Go.Proofs.YtloekplbhknepaaGreat.NM

namespace Sim
open Go Go.Vc
def exK : List Kl := [⟨0, 1, 10⟩, ⟨0, 2, 20⟩, ⟨0, 1, 11⟩, ⟨3, 2, 0⟩]
theorem exK_ok : ∀ x ∈ exK, x.ok := by
  intro x hx
  simp only [exK, List.mem_cons, List.not_mem_nil, or_false] at hx
  rcases hx with rfl | rfl | rfl | rfl <;> exact ⟨by decide, ⟨by decide, by decide⟩, ⟨by decide, by decide⟩⟩
theorem exK_pl : plT 9 exK 4 = [⟨1, hsI 1, 11⟩] := by kernel_rfl
theorem TOk.root1 {K : Int} {hs : Int → Int} {hv : Int → Bool} {m : Int → Int} {x : Ri} (h : TOk K hs hv m [x]) : 0 < m 16 ∧ m 17 = 1 ∧ m 23 = 1 := by
  obtain ⟨I, B, Q, M, hT, A⟩ := h
  have hl : I.length = 1 := by have := A.pm.length_eq; rw [List.length_map] at this; simpa using this.symm
  have hQ : Q.length = 0 := by
    refine Nat.eq_zero_of_not_pos fun hp => ?_
    obtain ⟨q, hq⟩ := List.exists_mem_of_length_pos hp
    have h2 := hT _ _ ((M.sh.qm q.1 q.2).2 hq)
    have h3 : (Fd q.1 q.2 I).length ≤ I.length := List.length_filter_le _ _
    omega
  have hB : B 0 (pre 0 0) = 0 := Classical.byContradiction fun hb => by
    have h2 := (M.sh.qm _ _).1 hb
    have := List.length_pos_of_mem h2
    omega
  match I, hl with
  | [y], _ =>
    have hc := M.tc.cell 0 0 (by decide) trivial
    unfold vl at hc
    rw [if_pos hB, Fd_cons, if_pos (by rw [pre_zero, pre_zero])] at hc
    have hn := Tsh.ndlo (M.sh.ndL (x := y) (by simp))
    refine ⟨?_, by have := M.len; simpa using this, by have := M.nod; rw [hQ] at this; simpa using this⟩
    have e : m 16 = y.a := hc
    omega
end Sim
namespace Go.Proofs.YtloekplbhknepaaGreat
open Go.Vc Sim
set_option maxHeartbeats 8000000
theorem nodes_ok36 (w0 : World) (n : Int) (hn : 0 ≤ n ∧ n ≤ 255) : FnE PP w0 [] 13 [.int .u8 n] [] (.agg (List.toArray [.int .i64 1, .int .i64 64, .int .i64 (n % 61)])) [] := by
  have hn8 : n.tmod 61 = n % 61 := Int.tmod_eq_emod_of_nonneg hn.1
  refine fn_of_run en13 fn13 rfl rfl rfl ?_
  repeat' (first | refine zck ?_ | refine zcp (by kernel_rfl) ?_ | (refine zap rfl ?_; first | (refine reg_rem rfl rfl (by decide) ?_; rw [hn8]) | refine zbz rfl (by omega) ?_ | refine zan rfl ?_ | refine zae 0 rfl rfl rfl rfl rfl rfl rfl ?_ | refine zar (fun nb => ?_) | refine zcb rfl ?_) | refine zch ?_)
  exact run_ret (leaves_nil (ends_take [] rfl (ends_one rfl (resOk_pt 0 rfl rfl rfl) ⟨rfl, rfl, rfl⟩)))
theorem ints_spec (w0 : World) (n : Int) (hn : 0 ≤ n ∧ n ≤ 255) : FnE PP w0 [] 11 [.int .u8 n] [] (trV (tI (n % 61))) [] := by
  have hN := nodes_ok36 w0 n hn
  have hMk : ∀ w, (Instr.makeInterface 57 (.agg #[])).run PP w = .ok (.iface 57 (.agg #[])) w := fun w => by kernel_rfl
  refine fn_of_run en11 fn11 rfl rfl rfl ?_
  repeat' (first | refine zck ?_ | refine zcp (by kernel_rfl) ?_ | (refine zap rfl ?_; first | refine reg_mkI hMk rfl ?_ | refine zan rfl ?_ | refine zah [] hN rfl rfl rfl sub_nil rfl ?_ | refine zae 0 rfl rfl rfl rfl rfl rfl rfl ?_ | refine zar (fun nb => ?_) | refine zcb rfl ?_) | refine zch ?_)
  exact run_ret (leaves_nil (ends_take [] rfl (ends_one rfl (resOk_pt 0 rfl rfl rfl) ⟨rfl, rfl, rfl⟩)))
theorem played_at (w0 : World) (sh : Shared) (v : Value) (l : List Kl) (hv : RdSl w0 sh Kl.cells 3 v l) (hok : ∀ x ∈ l, x.ok) (hlen : l.length ≤ 1000000) (K : Int) (hK : 0 ≤ K ∧ K ≤ 60) (l' : List Ri) (hl' : plT K l l.length = l') :
    Vc.Fn PP w0 sh 10 [trV (tI K), v] []
      (fun v Γ => ∃ (st : Ts K l') (wb : Nat) (kn : List (Int × Wd)), v = .tuple #[stT wb K st.a st.c l', .bool true] ∧ Γ = [wdA wb kn, LstT st.a st.c l'] ∧ WM 544 l.length kn st.m) := by
  subst hl'
  exact played_spec w0 sh K hK v l hv hok hlen
abbrev exB (b : Nat) (l : List Kl) : Asn := pt b (.cells (List.toArray (l.flatMap Kl.cells)) 64 (0, 0))
theorem played_ex (w0 : World) (b : Nat) (l : List Kl) (hok : ∀ x ∈ l, x.ok) (hlen : l.length ≤ 1000000) (l' : List Ri) (hl' : plT 9 l l.length = l') :
    Vc.Fn PP w0 [] 10 [trV (tI 9), .slice (some ⟨b, 0, none⟩) l.length l.length] [exB b l]
      (fun v Γ => ∃ (st : Ts 9 l') (wb : Nat) (kn : List (Int × Wd)), v = .tuple #[stT wb 9 st.a st.c l', .bool true] ∧ Γ = [wdA wb kn, LstT st.a st.c l', exB b l] ∧ WM 544 l.length kn st.m) := by
  refine ((played_at w0 _ _ l (RdSl.flat (fun _ _ => rfl) (.head _)) hok hlen 9 (by decide) l' hl').owned).mono ?_
  rintro v Γ ⟨Γ', ⟨st, wb, kn, h1, rfl, h2⟩, rfl⟩
  exact ⟨st, wb, kn, h1, rfl, h2⟩
theorem awake_spec (w0 : World) : FnE PP w0 [] 9 [] [] (.bool true) [] := by
  have hI := ints_spec w0 9 (by decide)
  have e9 : (9 : Int) % 61 = 9 := by decide
  rw [e9] at hI
  refine fn_of_run en9 fn9 rfl rfl rfl ?_
  repeat (first | refine zck ?_ | refine zcl ?_ | refine zcm ?_ | refine zcn ?_)
  first | refine zcp (by kernel_rfl) ?_ | refine zcq PP_mixed (by kernel_rfl) (by kernel_rfl) ?_
  repeat' (refine zap rfl ?_; first | refine zan rfl ?_)
  all_goals refine zch ?_
  all_goals repeat (first | refine zck ?_ | refine zcl ?_ | refine zcm ?_ | refine zcn ?_)
  repeat (first | refine zck ?_ | refine zcl ?_ | refine zcm ?_ | refine zcn ?_)
  first | refine zcp (by kernel_rfl) ?_ | refine zcq PP_mixed (by kernel_rfl) (by kernel_rfl) ?_
  repeat' (refine zap rfl ?_; first | refine zcb rfl ?_ | refine reg_buildSlice rfl rfl rfl rfl rfl rfl (fun nb => ?_) | (refine zai [0] (played_ex w0 _ exK exK_ok (by decide) _ exK_pl) rfl rfl rfl sub_nil ?_; rintro v Γ' ⟨⟨m, a, c, hM⟩, wb, kn, rfl, rfl, hW⟩) | refine zan rfl ?_ | refine zan rfl ?_ | refine zah [] hI rfl rfl rfl sub_nil rfl ?_ | refine zan rfl ?_ | refine zae 3 rfl rfl rfl rfl rfl rfl rfl ?_ | refine zar (fun nb => ?_))
  all_goals refine zch ?_
  all_goals repeat (first | refine zck ?_ | refine zcl ?_ | refine zcm ?_ | refine zcn ?_)
  obtain ⟨h1, h2, h3⟩ := hM.root1
  have v16 : ((lookW kn 16).getD ⟨0, 0, 0⟩).val = m 16 := by rw [valW_getD]; exact hW.val 16 (by decide) (by decide)
  have v17 : ((lookW kn 17).getD ⟨0, 0, 0⟩).val = 1 := by rw [valW_getD]; exact (hW.val 17 (by decide) (by decide)).trans h2
  have v23 : ((lookW kn 23).getD ⟨0, 0, 0⟩).val = 1 := by rw [valW_getD]; exact (hW.val 23 (by decide) (by decide)).trans h3
  refine run_share [0] rfl ?_
  repeat' (first | refine zcp (by kernel_rfl) ?_ | (refine zap rfl ?_; first | refine reg_lookup_at (.head _) rfl rfl (valW_look kn _ _ rfl) ?_ | (refine reg_fieldV rfl rfl ?_; first | rw [v16] | rw [v17] | rw [v23]) | refine zaj rfl ?_ | refine zan rfl ?_ | refine zan rfl ?_ | refine zab 2 rfl rfl rfl ?_ | refine zce rfl ?_ | refine zao rfl ?_ | refine zbc rfl rfl (by omega) ?_ | refine zbk rfl rfl (by omega) ?_ | refine zbo rfl rfl ?_ | refine zbu rfl ?_) | refine zch ?_)
  exact run_ret (leaves_nil (ends_take [] rfl (ends_one rfl rfl ⟨rfl, rfl, rfl⟩)))
end Go.Proofs.YtloekplbhknepaaGreat

namespace Sim
open Go Go.Vc
structure Kn where
  d : Int
  x : Int
  v : Int
def Kn.ok (x : Kn) : Prop := (0 ≤ x.d ∧ x.d ≤ 255) ∧ (0 ≤ x.x ∧ x.x ≤ 255) ∧ Go.Vc.i64P x.v
abbrev Kn.cells (x : Kn) : List Go.Value := [.int .u8 x.d, .int .u8 x.x, .int .i64 x.v]
def stepM (bt K : Int) (s : List Ri) (x : Kn) : List Ri := if 97 ≤ x.x ∧ x.x ≤ 112 then stepL K (hsN bt) s x.d (x.x + 3) x.v else s
def plN (bt K : Int) (l : List Kn) (i : Nat) : List Ri := (l.take i).foldl (stepM bt K) []
theorem plN_succ {bt K : Int} {l : List Kn} {i : Nat} {x : Kn} (h : l[i]? = some x) : plN bt K l (i + 1) = stepM bt K (plN bt K l i) x := by
  unfold plN
  rw [List.take_add_one, h]
  simp
end Sim
namespace Go.Proofs.YtloekplbhknepaaGreat.NM
open Go.Vc Sim
set_option maxHeartbeats 8000000
instance : TUnd PP 42 (.interface #[("Hash", 149), ("Key", 170), ("Num", 145)]) := ⟨by kernel_rfl⟩
section
variable {bt : Int}
theorem step_any {K : Int} {m : Int → Int} {l : List Ri} (w0 : World) (sh : Shared) (wb : Nat) (hbt : 0 ≤ bt ∧ bt ≤ 255) (hK : 0 ≤ K ∧ K ≤ 60) (a : Option Addr) (c : Nat) (kn : List (Int × Wd)) (N : Int) (hN : N ≤ 1000000) (hW : WM 544 N kn m) (h : TOk K (hsN bt) hvN m l) (d x v : Int) (hd : 0 ≤ d ∧ d ≤ 255) (l' : List Ri) (hl' : stepM bt K l ⟨d, x, v⟩ = l') :
    Vc.Fn PP w0 sh 41 [stT bt wb K a c l, .agg (List.toArray [.int .u8 d, .int .u8 x, .int .i64 v])] [wdA wb kn, LstT a c l]
      (fun v Γ => ∃ (st : Ts bt K l') (nb : Nat) (kn2 : List (Int × Wd)), v = .tuple #[stT bt nb K st.a st.c l', .bool true] ∧ Γ = [wdA nb kn2, LstT st.a st.c l'] ∧ WM 544 (N + 1) kn2 st.m) := by
  unfold stepM at hl'
  dsimp only at hl'
  by_cases hx : 97 ≤ x ∧ x ≤ 112
  · rw [if_pos hx] at hl'
    have := step_spec w0 sh wb hK a c kn N hN hW h d (x + 3) v hbt (by omega) hd l' hl'
    rw [show x + 3 - 3 = x by omega] at this
    exact this
  · rw [if_neg hx] at hl'
    subst hl'
    exact step_spec0 w0 sh wb hK a c kn N hN hW h d x v hx hd
theorem played_spec (w0 : World) (sh : Shared) (hbt : 0 ≤ bt ∧ bt ≤ 255) (K : Int) (hK : 0 ≤ K ∧ K ≤ 60) (v : Value) (l : List Kn) (hv : RdSl w0 sh Kn.cells 3 v l) (hok : ∀ x ∈ l, x.ok) (hlen : l.length ≤ 1000000) :
    Vc.Fn PP w0 sh 12 [trVN bt (tN bt K), v] []
      (fun v Γ => ∃ (st : Ts bt K (plN bt K l l.length)) (wb : Nat) (kn : List (Int × Wd)), v = .tuple #[stT bt wb K st.a st.c (plN bt K l l.length), .bool true] ∧ Γ = [wdA wb kn, LstT st.a st.c (plN bt K l l.length)] ∧ WM 544 l.length kn st.m) := by
  have hF := fresh_spec w0 544 (by decide)
  have hW0 := fresh_WM 544 (by decide)
  generalize wk 0 (List.replicate 544 0) = kn0 at hF hW0
  obtain ⟨a, cap, rfl, hcap, _⟩ := id hv
  refine fn_of_run en12 fn12 rfl rfl rfl ?_
  repeat (first | refine zck ?_ | refine zcl ?_ | refine zcm ?_ | refine zcn ?_)
  first | refine zcp (by kernel_rfl) ?_ | refine zcq PP_mixed (by kernel_rfl) (by kernel_rfl) ?_
  repeat' (refine zap rfl ?_; first | refine zan rfl ?_ | refine zaq (cs := [_, _, _, _, _]) rfl (fun nb => ?_) | refine zar (fun nb => ?_))
  all_goals refine zch ?_
  all_goals repeat (first | refine zck ?_ | refine zcl ?_ | refine zcm ?_ | refine zcn ?_)
  rename_i qb
  revert nb; intro tb
  refine run_share [0] rfl ?_
  repeat (first | refine zck ?_ | refine zcl ?_ | refine zcm ?_ | refine zcn ?_)
  first | refine zcp (by kernel_rfl) ?_ | refine zcq PP_mixed (by kernel_rfl) (by kernel_rfl) ?_
  repeat' (refine zap rfl ?_; first | refine zaa 0 rfl rfl rfl ?_ | (refine zai [] hF rfl rfl rfl sub_nil ?_; rintro v Γ' ⟨wb, rfl, rfl⟩) | refine zae 2 rfl rfl rfl rfl rfl rfl rfl ?_ | refine zar (fun nb => ?_) | refine zcb rfl ?_)
  all_goals refine zch ?_
  all_goals repeat (first | refine zck ?_ | refine zcl ?_ | refine zcm ?_ | refine zcn ?_)
  revert nb; intro xb
  repeat (first | refine zck ?_ | refine zcl ?_ | refine zcm ?_ | refine zcn ?_)
  first | refine zcp (by kernel_rfl) ?_ | refine zcq PP_mixed (by kernel_rfl) (by kernel_rfl) ?_
  repeat' (refine zap rfl ?_; first | refine zan rfl ?_ | refine zce rfl ?_)
  all_goals refine zch ?_
  all_goals repeat (first | refine zck ?_ | refine zcl ?_ | refine zcm ?_ | refine zcn ?_)
  refine run_take [1, 0, 0] rfl ?_
  refine run_slots [(4, ptr tb), (6, ptr xb), (14, .slice a l.length cap), (15, .int .i64 l.length), (16, .int .i64 0)] ⟨rfl, rfl, rfl, rfl, rfl, trivial⟩ (fun junk => ?_)
  refine run_emp (A := LstT none 0 []) LstE.nil ?_
  refine run_loop (S := Nat × (Option Addr × Nat) × Nat × List (Int × Wd) × (Int → Int)) (fun st => [(4, ptr tb), (6, ptr xb), (14, .slice a l.length cap), (15, .int .i64 l.length), (16, .int .i64 (st.1 : Int))])
    (fun st Γ => Γ = [pt tb (.cells (List.toArray [.map none, .nilIface, .int .i64 0, .int .i64 0, .int .i64 0, .int .i64 0, .slice none 0 0]) 46 (0, 0)), wdA st.2.2.1 st.2.2.2.1, stB bt xb st.2.2.1 K st.2.1.1 st.2.1.2 (plN bt K l st.1), LstT st.2.1.1 st.2.1.2 (plN bt K l st.1)] ∧ st.1 ≤ l.length ∧
      WM 544 st.1 st.2.2.2.1 st.2.2.2.2 ∧ TOk K (hsN bt) hvN st.2.2.2.2 (plN bt K l st.1)) (fun st => l.length - st.1) (0, (none, 0), wb, kn0, fun _ => 0) ⟨rfl, rfl, rfl, rfl, rfl, trivial⟩ ⟨rfl, Nat.zero_le _, hW0, TOk.zero hK⟩ ?_
  rintro ⟨i, ⟨a0, c0⟩, wb, kn, m⟩ Γ junk ⟨rfl, hi, hW, hM⟩
  dsimp only at hi hW hM ⊢
  by_cases hlt : i < l.length
  · have hx : l[i]? = some l[i] := List.getElem?_eq_getElem hlt
    generalize l[i] = x at hx
    have hxo := hok x (List.mem_of_getElem? hx)
    have hS := fun sh => step_any w0 sh wb hbt hK a0 c0 kn i (by omega) hW hM x.d x.x x.v hxo.1 (plN bt K l (i + 1)) (plN_succ hx).symm
    generalize hs0 : plN bt K l i = s0 at hS hM
    generalize hs1 : plN bt K l (i + 1) = s1 at hS
    obtain ⟨b, off, cc, TT, fr, rfl, hh, hcx, _⟩ := hv.cells hx
    repeat (first | refine zck ?_ | refine zcl ?_ | refine zcm ?_ | refine zcn ?_)
    first | refine zcp (by kernel_rfl) ?_ | refine zcq PP_mixed (by kernel_rfl) (by kernel_rfl) ?_
    repeat' (refine zap rfl ?_; first | refine zbg rfl rfl (by omega) ?_)
    all_goals refine zch ?_
    all_goals repeat (first | refine zck ?_ | refine zcl ?_ | refine zcm ?_ | refine zcn ?_)
    refine zci rfl ?_
    repeat (first | refine zck ?_ | refine zcl ?_ | refine zcm ?_ | refine zcn ?_)
    first | refine zcp (by kernel_rfl) ?_ | refine zcq PP_mixed (by kernel_rfl) (by kernel_rfl) ?_
    repeat' (refine zap rfl ?_; first | refine zad rfl (fun hF Γ w h1 h2 => hh hF Γ w (fun p hp => h1 p (.tail _ hp)) h2) (hcx _ (by omega)) ?_ | refine zae 4 rfl rfl rfl rfl rfl rfl rfl ?_ | refine zas rfl rfl (by omega) ?_ | refine zar (fun nb => ?_))
    all_goals refine zch ?_
    all_goals repeat (first | refine zck ?_ | refine zcl ?_ | refine zcm ?_ | refine zcn ?_)
    revert nb; intro cb
    refine run_share [4] rfl ?_
    repeat (first | refine zck ?_ | refine zcl ?_ | refine zcm ?_ | refine zcn ?_)
    first | refine zcp (by kernel_rfl) ?_ | refine zcq PP_mixed (by kernel_rfl) (by kernel_rfl) ?_
    repeat' (refine zap rfl ?_; first | (refine zai [1, 2] (hS sh) rfl rfl rfl (fun _ h => .tail _ (.tail _ h)) ?_; rintro v Γ' ⟨⟨m1, a1, c1, hM1⟩, wb1, kn1, rfl, rfl, hW1⟩) | refine zan rfl ?_ | refine zan rfl ?_ | refine zaa 0 rfl rfl rfl ?_ | refine zab 2 rfl rfl rfl ?_ | refine zan rfl ?_ | refine zae 4 rfl rfl rfl rfl rfl rfl rfl ?_ | refine zar (fun nb => ?_))
    all_goals refine zch ?_
    all_goals repeat (first | refine zck ?_ | refine zcl ?_ | refine zcm ?_ | refine zcn ?_)
    revert nb; intro nx
    refine run_share [4] rfl ?_
    have hI := is_spec w0 sh wb1 hK a1 c1 kn1 (i + 1) (by omega) hW1 hM1
    repeat (first | refine zck ?_ | refine zcl ?_ | refine zcm ?_ | refine zcn ?_)
    first | refine zcp (by kernel_rfl) ?_ | refine zcq PP_mixed (by kernel_rfl) (by kernel_rfl) ?_
    repeat' (refine zap rfl ?_; first | (refine zai [0, 0] hI rfl rfl rfl (fun _ h => .tail _ (.tail _ (.tail _ h))) ?_; rintro v Γ' ⟨rfl, rfl⟩) | refine reg_eq_nilI rfl rfl ?_ | refine zaj rfl ?_ | refine zan rfl ?_ | refine zaa 0 rfl rfl rfl ?_ | refine zao rfl ?_ | refine zbx rfl ?_ | refine zbv rfl ?_)
    all_goals refine zch ?_
    all_goals repeat (first | refine zck ?_ | refine zcl ?_ | refine zcm ?_ | refine zcn ?_)
    refine zcj rfl ?_
    repeat' (first | refine zcp (by kernel_rfl) ?_ | refine zcm ?_ | refine zcn ?_ | (refine zap rfl ?_; first | refine zan rfl ?_ | refine zaa 0 rfl rfl rfl ?_ | refine zau rfl rfl (by omega) ?_ | refine zae 3 rfl rfl rfl rfl rfl rfl rfl ?_) | refine zch ?_)
    refine run_take [2, 0, 1, 0] rfl ?_
    refine cut_end ⟨rfl, (i + 1, (a1, c1), wb1, kn1, m1), ⟨rfl, rfl, rfl, rfl, int_eq (by dsimp only; omega), trivial⟩, ⟨?_, by dsimp only; omega, ?_, ?_⟩, by dsimp only; omega⟩
    · dsimp only
      rw [hs1]
    · exact (show ((i + 1 : Nat) : Int) = (i : Int) + 1 by omega) ▸ hW1
    · dsimp only
      rw [hs1]
      exact hM1
  · have hil : i = l.length := by omega
    repeat' (first | refine zck ?_ | refine zcp (by kernel_rfl) ?_ | (refine zap rfl ?_; first | refine zbh rfl rfl (by omega) ?_) | refine zch ?_ | refine zcj rfl ?_)
    refine cut_exit rfl rfl ?_
    repeat' (first | refine zck ?_ | refine zcp (by kernel_rfl) ?_ | (refine zap rfl ?_; first | refine zan rfl ?_ | refine zab 2 rfl rfl rfl ?_ | refine zae 0 rfl rfl rfl rfl rfl rfl rfl ?_) | refine zch ?_)
    subst hil
    exact run_ret (leaves_nil (ends_take [1, 2] rfl (ends_two rfl (resOk_pt 0 rfl rfl rfl) rfl ⟨rfl, ⟨m, a0, c0, hM⟩, wb, kn, rfl, rfl, hW⟩)))
end
theorem names_spec (w0 : World) (nn bt : Int) (hn : u8P nn) (hbt : u8P bt) (v : Value) (l : List Kn) (hv : InSl w0 Kn.cells 3 v l) (hok : ∀ x ∈ l, x.ok) :
    FnE PP w0 [] 4 [.int .u8 nn, .int .u8 bt, v] [] (.bool true) [] := by
  have hr := hv.rd (sh := [])
  obtain ⟨a, cap, rfl, hmax, hmem⟩ := hv
  have hA := awake_spec w0
  have hI := nodes_ok36 w0 nn hn
  have hMk : ∀ w, (Instr.makeInterface 52 (.agg (List.toArray [.int .u8 bt]))).run PP w = .ok (.iface 52 (.agg (List.toArray [.int .u8 bt]))) w := fun w => by kernel_rfl
  by_cases hl : (l.length : Int) > 40
  · refine fn_of_run en4 fn4 rfl rfl rfl ?_
    repeat' (first | refine zck ?_ | refine zcp (by kernel_rfl) ?_ | (refine zap rfl ?_; first | refine zan rfl ?_ | refine zan rfl ?_ | refine zah [] hA rfl rfl rfl sub_nil rfl ?_ | refine zce rfl ?_ | refine zbk rfl rfl (by omega) ?_) | refine zch ?_ | refine zci rfl ?_)
    exact ret_tmp1 rfl ⟨rfl, rfl⟩
  · refine fn_of_run en4 fn4 rfl rfl rfl ?_
    repeat' (first | refine zck ?_ | refine zcp (by kernel_rfl) ?_ | refine zcm ?_ | (refine zap rfl ?_; first | refine reg_mkI hMk rfl ?_ | (refine zai [] (played_spec w0 [] hbt (nn % 61) (by omega) _ l hr hok (by omega)) rfl rfl rfl sub_nil ?_; rintro v Γ' ⟨⟨m, a, c, hM⟩, wb, kn, rfl, rfl, hW⟩) | refine zaj rfl ?_ | refine zan rfl ?_ | refine zan rfl ?_ | refine zah [] hI rfl rfl rfl sub_nil rfl ?_ | refine zah [] hA rfl rfl rfl sub_nil rfl ?_ | refine zce rfl ?_ | refine zan rfl ?_ | refine zbl rfl rfl (by omega) ?_ | refine zbu rfl ?_ | refine zae 2 rfl rfl rfl rfl rfl rfl rfl ?_ | refine zar (fun nb => ?_) | refine zcb rfl ?_) | refine zch ?_ | refine zcj rfl ?_)
    exact run_ret (leaves_nil (ends_take [] rfl (ends_one rfl rfl ⟨rfl, rfl, rfl⟩)))
end Go.Proofs.YtloekplbhknepaaGreat.NM

namespace Go.Proofs.YtloekplbhknepaaGreat
open Go.Vc Sim Go.ChangeShapes Go.WideShapes Go.RowKit
set_option maxRecDepth 100000
theorem in_callN {H : Type} {enc : TypeId × Value → H} {w : World} {base : Nat} {spare : Nat → Bool} {held : Bool} {n : Nat} {cs : List Value} {y : DataW H × List MemPlace}
    (h : DataW.trod enc Tryz.prog w base spare held n 99 cs = some y) : ∃ x : Kn, x.ok ∧ cs = x.cells := by
  obtain ⟨xs, n', _, _, hlen, hxl, hf⟩ := DataW.trod_struct Tryz.underlying99 h
  have c5 : Tryz.prog.cellsOf 5 = 1 := by kernel_rfl
  have c2 : Tryz.prog.cellsOf 2 = 1 := by kernel_rfl
  have c50 : Tryz.prog.cellsOf 50 = 1 := by kernel_rfl
  have c48 : Tryz.prog.cellsOf 99 = 3 := by kernel_rfl
  rw [c48] at hlen
  have f0 : DataW.trod enc Tryz.prog w base spare held n' 5 ((cs.drop 0).take (Tryz.prog.cellsOf 5)) = xs[0]? := hf 0 _ rfl
  have f1 : DataW.trod enc Tryz.prog w base spare held n' 50 ((cs.drop 1).take (Tryz.prog.cellsOf 50)) = xs[1]? := hf 1 _ rfl
  have f2 : DataW.trod enc Tryz.prog w base spare held n' 2 ((cs.drop 2).take (Tryz.prog.cellsOf 2)) = xs[2]? := hf 2 _ rfl
  rw [c5] at f0
  rw [c50] at f1
  rw [c2] at f2
  match cs, hlen with
  | [a0, a1, a2], _ =>
    match xs, hxl with
    | [y0, y1, y2], _ =>
      obtain ⟨k0, e0, _, w0⟩ := DataW.trod_int Tryz.underlying5 (show DataW.trod _ _ _ _ _ _ n' _ [a0] = some y0 from f0)
      obtain ⟨zs, n2, _, _, hl2, hzl, hf2⟩ := DataW.trod_struct Tryz.underlying50 (show DataW.trod _ _ _ _ _ _ n' _ [a1] = some y1 from f1)
      have g0 : DataW.trod enc Tryz.prog w base spare held n2 5 (([a1].drop 0).take (Tryz.prog.cellsOf 5)) = zs[0]? := hf2 0 _ rfl
      rw [c5] at g0
      match zs, hzl with
      | [z0], _ =>
        obtain ⟨k1, e1, _, w1⟩ := DataW.trod_int Tryz.underlying5 (show DataW.trod _ _ _ _ _ _ n2 _ [a1] = some z0 from g0)
        obtain ⟨k2, e2, _, w2⟩ := DataW.trod_int Tryz.underlying2 (show DataW.trod _ _ _ _ _ _ n' _ [a2] = some y2 from f2)
        simp only [List.cons.injEq, and_true] at e0 e1 e2
        subst e0; subst e1; subst e2
        exact ⟨⟨k0, k1, k2⟩, ⟨wf_u8 w0, wf_u8 w1, wf_i64 w2⟩, rfl⟩
theorem in_callsN {H : Type} {enc : TypeId × Value → H} {w : World} {base : Nat} {spare : Nat → Bool} {held : Bool} {r : Reach} {b0 : Nat} {v : Value} {d : DataW H} {ps : List MemPlace}
    (hval : Value.okWide Tryz.prog w r b0 40 v) (h : DataW.Trod enc Tryz.prog w base spare held 40 v d ps) : ∃ l, InSl w Kn.cells 3 v l ∧ ∀ x ∈ l, x.ok :=
  in_slice Kn.cells Kn.ok Tryz.underlying40 (by kernel_rfl) (by decide) hval (fun n cs y hy => in_callN hy) h
end Go.Proofs.YtloekplbhknepaaGreat

