import Derived.Sort.AssemblyPlain
import Derived.Test.YtloekplbhknepaaGreatPart2
import Derived.Test.YtloekplbhknepaaGreatPart1
import Derived.Test.YtloekplbhknepaaGreatKit
/- Lemmas and walks for the claims of this seat (own work): Tw7 Sq0 Sq1 Sq2 Sq3 Sq4 Sq5 Sq6 Sq7 Sq8 So0 So1 So2 So3 So4 So5 So6 So7. -/
namespace Go.Proofs.YtloekplbhknepaaGreat
open Go.Vc Sim
set_option maxHeartbeats 4000000
theorem SlA_pt {T : TypeId} {sz len b : Nat} {cs : List Value} (h : cs.length = len * sz) (g : Heap) (hg : pt b (.cells (List.toArray cs) T (0, 0)) g) : SlA T sz (some ⟨b, 0, none⟩) len len cs g :=
  SlA.some_iff.2 ⟨b, [], rfl, h, Nat.le_refl _, by rw [h]; exact Nat.le_add_right _ _, by rw [List.append_nil]; exact hg⟩
def walkR (lb : Nat) (r : (List (Int × Int) × Bool) × Int) (v : Value) (Γ : List Asn) : Prop := ∃ a c, v = .tuple #[.slice a r.1.1.length c, .bool r.1.2] ∧ Γ = [celT lb (.int .i64 r.2) 3, SlA 134 2 a r.1.1.length c (prV r.1.1)]
theorem trWalkK (w0 : World) (p : Nat) (T : Tr) (hT : T.Ok) : ∀ (k : Nat) (cell : Int) (d : Nat) (left : Int) (lb : Nat), d ≤ 4 → 0 ≤ left ∧ left ≤ 100 → left < k →
    FnX w0 [] 60 [trV T, spP p, .int .i64 cell, .int .i64 (d : Int), .pointer (some ⟨lb, 0, none⟩)] p (T.walkK k cell d left) [celT lb (.int .i64 left) 3] (walkR lb) := by
  intro k
  induction k with
  | zero => intro cell d left lb _ h1 h2; exact absurd h2 (by omega)
  | succ k ih =>
  intro cell d left lb hd hl hk
  intro s hS
  have hG := At.start hS
  generalize Pg.run _ s = R at hG ⊢
  rw [Tr.walkK] at hG
  refine fn_of_run en60 fn60 rfl rfl rfl ?_
  repeat (first | refine zck ?_ | refine zcl ?_ | refine zcm ?_ | refine zcn ?_)
  first | refine zcp (by kernel_rfl) ?_ | refine zcq PP_mixed (by kernel_rfl) (by kernel_rfl) ?_
  repeat' (refine zap rfl ?_; first | refine zan rfl ?_ | refine zaq (cs := [_, _, _, _, _]) rfl (fun nb => ?_))
  all_goals refine zch ?_
  all_goals repeat (first | refine zck ?_ | refine zcl ?_ | refine zcm ?_ | refine zcn ?_)
  revert nb; intro tb
  refine run_share [2] rfl ?_
  repeat (first | refine zck ?_ | refine zcl ?_ | refine zcm ?_ | refine zcn ?_)
  first | refine zcp (by kernel_rfl) ?_ | refine zcq PP_mixed (by kernel_rfl) (by kernel_rfl) ?_
  repeat' (refine zap rfl ?_; first | refine zan rfl ?_ | refine zan rfl ?_ | refine reg_callG [0] hG (getG w0 p _) rfl rfl rfl sub_nil (fun x s hG => ?_))
  all_goals refine zch ?_
  all_goals repeat (first | refine zck ?_ | refine zcl ?_ | refine zcm ?_ | refine zcn ?_)
  repeat (first | refine zck ?_ | refine zcl ?_ | refine zcm ?_ | refine zcn ?_)
  first | refine zcp (by kernel_rfl) ?_ | refine zcq PP_mixed (by kernel_rfl) (by kernel_rfl) ?_
  repeat' (refine zap rfl ?_; first | refine zan rfl ?_ | refine zbo rfl rfl ?_)
  all_goals refine zch ?_
  all_goals repeat (first | refine zck ?_ | refine zcl ?_ | refine zcm ?_ | refine zcn ?_)
  refine run_cond rfl (fun hx => ?_) (fun hx => ?_)
  · rw [if_pos hx] at hG
    rw [hG.done]
    repeat' (first | refine zck ?_ | refine zcp (by kernel_rfl) ?_ | (refine zap rfl ?_; first | refine zan rfl ?_) | refine zch ?_)
    refine run_nilslice 134 2 ?_
    exact ret_tmp2 rfl ⟨_, rfl, none, 0, rfl, rfl⟩
  · rw [if_neg hx] at hG
    by_cases hx0 : x < 0
    · rw [if_pos hx0] at hG
      repeat (first | refine zck ?_ | refine zcl ?_ | refine zcm ?_ | refine zcn ?_)
      first | refine zcp (by kernel_rfl) ?_ | refine zcq PP_mixed (by kernel_rfl) (by kernel_rfl) ?_
      repeat' (refine zap rfl ?_; first | refine zan rfl ?_ | refine zan rfl ?_ | refine zbg rfl rfl (by omega) ?_)
      all_goals refine zch ?_
      all_goals repeat (first | refine zck ?_ | refine zcl ?_ | refine zcm ?_ | refine zcn ?_)
      repeat (first | refine zck ?_ | refine zcl ?_ | refine zcm ?_ | refine zcn ?_)
      first | refine zcp (by kernel_rfl) ?_ | refine zcq PP_mixed (by kernel_rfl) (by kernel_rfl) ?_
      repeat' (refine zap rfl ?_; first | refine zan rfl ?_)
      all_goals refine zch ?_
      all_goals repeat (first | refine zck ?_ | refine zcl ?_ | refine zcm ?_ | refine zcn ?_)
      refine zci rfl ?_
      repeat (first | refine zck ?_ | refine zcl ?_ | refine zcm ?_ | refine zcn ?_)
      first | refine zcp (by kernel_rfl) ?_ | refine zcq PP_mixed (by kernel_rfl) (by kernel_rfl) ?_
      repeat' (refine zap rfl ?_; first | refine reg_neg rfl ?_ | refine zan rfl ?_ | refine zan rfl ?_)
      all_goals refine zch ?_
      all_goals repeat (first | refine zck ?_ | refine zcl ?_ | refine zcm ?_ | refine zcn ?_)
      repeat (first | refine zck ?_ | refine zcl ?_ | refine zcm ?_ | refine zcn ?_)
      first | refine zcp (by kernel_rfl) ?_ | refine zcq PP_mixed (by kernel_rfl) (by kernel_rfl) ?_
      repeat' (refine zap rfl ?_; first | refine zan rfl ?_ | refine zan rfl ?_ | refine zaa 0 rfl rfl rfl ?_ | refine zah [] (trNode w0 T hT _) rfl rfl rfl sub_nil rfl ?_ | refine zan rfl ?_)
      all_goals refine zch ?_
      all_goals repeat (first | refine zck ?_ | refine zcl ?_ | refine zcm ?_ | refine zcn ?_)
      repeat (first | refine zck ?_ | refine zcl ?_ | refine zcm ?_ | refine zcn ?_)
      first | refine zcp (by kernel_rfl) ?_ | refine zcq PP_mixed (by kernel_rfl) (by kernel_rfl) ?_
      repeat' (refine zap rfl ?_; first | refine zan rfl ?_ | refine zab 1 rfl rfl rfl ?_ | refine zav rfl rfl (by omega) ?_ | refine zae 1 rfl rfl rfl rfl rfl rfl rfl ?_ | refine zan rfl ?_)
      all_goals refine zch ?_
      all_goals repeat (first | refine zck ?_ | refine zcl ?_ | refine zcm ?_ | refine zcn ?_)
      have hw : IntKind.i64.wrap (0 - x) = w64 (0 - x) := rfl
      rw [hw]
      have hnb := Tr.nodeN_bd (w64 (0 - x))
      generalize hb : T.nodeB (w64 (0 - x)) = b at hG ⊢
      generalize Tr.nodeN (w64 (0 - x)) = at_ at hG hnb ⊢
      by_cases hc : b = true ∧ 0 ≤ left - 1 ∧ d ≠ 4
      · rw [if_pos hc] at hG
        obtain ⟨rfl, hc2, hc3⟩ := hc
        repeat (first | refine zck ?_ | refine zcl ?_ | refine zcm ?_ | refine zcn ?_)
        first | refine zcp (by kernel_rfl) ?_ | refine zcq PP_mixed (by kernel_rfl) (by kernel_rfl) ?_
        repeat' (refine zap rfl ?_; first | refine zaj rfl ?_ | refine zan rfl ?_ | refine zab 1 rfl rfl rfl ?_ | refine zbd rfl rfl (by omega) ?_ | refine zbh rfl rfl (by omega) ?_ | refine zbx rfl ?_ | refine zbu rfl ?_ | refine zbv rfl ?_ | refine zan rfl ?_)
        all_goals refine zch ?_
        all_goals repeat (first | refine zck ?_ | refine zcl ?_ | refine zcm ?_ | refine zcn ?_)
        refine zcj rfl ?_
        repeat (first | refine zck ?_ | refine zcl ?_ | refine zcm ?_ | refine zcn ?_)
        first | refine zcp (by kernel_rfl) ?_ | refine zcq PP_mixed (by kernel_rfl) (by kernel_rfl) ?_
        repeat' (refine zap rfl ?_; first | refine zan rfl ?_ | refine zbx rfl ?_)
        all_goals refine zch ?_
        all_goals repeat (first | refine zck ?_ | refine zcl ?_ | refine zcm ?_ | refine zcn ?_)
        refine zcj rfl ?_
        repeat (first | refine zck ?_ | refine zcl ?_ | refine zcm ?_ | refine zcn ?_)
        first | refine zcp (by kernel_rfl) ?_ | refine zcq PP_mixed (by kernel_rfl) (by kernel_rfl) ?_
        repeat' (refine zap rfl ?_; first | refine zan rfl ?_)
        all_goals refine zch ?_
        all_goals repeat (first | refine zck ?_ | refine zcl ?_ | refine zcm ?_ | refine zcn ?_)
        repeat (first | refine zck ?_ | refine zcl ?_ | refine zcm ?_ | refine zcn ?_)
        first | refine zcp (by kernel_rfl) ?_ | refine zcq PP_mixed (by kernel_rfl) (by kernel_rfl) ?_
        repeat' (refine zap rfl ?_; first | refine zan rfl ?_)
        all_goals refine zch ?_
        all_goals repeat (first | refine zck ?_ | refine zcl ?_ | refine zcm ?_ | refine zcn ?_)
        refine run_nilslice 134 2 ?_
        refine run_loop (S := Nat × List (Int × Int) × (Option Addr × Nat) × Int × Sp) (fun st => [(1, spP p), (3, .int .i64 (d : Int)), (4, .pointer (some ⟨lb, 0, none⟩)), (5, .pointer (some ⟨tb, 0, none⟩)), (14, .int .i64 at_), (19, .slice st.2.2.1.1 st.2.1.length st.2.2.1.2), (92, .int .i64 (st.1 : Int))])
          (fun st Γ => Γ = [SpaceA p st.2.2.2.2, celT lb (.int .i64 st.2.2.2.1) 3, SlA 134 2 st.2.2.1.1 st.2.1.length st.2.2.1.2 (prV st.2.1)] ∧ At R (Tr.kids (fun c l => T.walkK k c (d + 1) l) (8 - st.1) (at_ + st.1) st.2.1 st.2.2.2.1) st.2.2.2.2 ∧ st.1 ≤ 8 ∧ 0 ≤ st.2.2.2.1 ∧ (st.2.1.length : Int) + st.2.2.2.1 ≤ left - 1)
          (fun st => 8 - st.1) (0, [], (none, 0), left - 1, s) ⟨rfl, rfl, rfl, rfl, rfl, rfl, rfl, trivial⟩ ⟨rfl, by dsimp only; rw [show at_ + ((0 : Nat) : Int) = at_ by omega]; exact hG, Nat.zero_le 8, hc2, by dsimp only [List.length_nil]; omega⟩ ?_
        rintro ⟨i, out, ⟨a, c⟩, lf, s⟩ Γ junk ⟨rfl, hG, hi, hlf, hlen⟩
        dsimp only at hG hi hlf hlen ⊢
        by_cases hlt : i < 8
        · obtain ⟨k', hk'⟩ : ∃ k', 8 - i = k' + 1 := ⟨7 - i, by omega⟩
          rw [hk', Tr.kids] at hG
          repeat (first | refine zck ?_ | refine zcl ?_ | refine zcm ?_ | refine zcn ?_)
          first | refine zcp (by kernel_rfl) ?_ | refine zcq PP_mixed (by kernel_rfl) (by kernel_rfl) ?_
          repeat' (refine zap rfl ?_; first | refine zbg rfl rfl (by omega) ?_)
          all_goals refine zch ?_
          all_goals repeat (first | refine zck ?_ | refine zcl ?_ | refine zcm ?_ | refine zcn ?_)
          refine zci rfl ?_
          repeat (first | refine zck ?_ | refine zcl ?_ | refine zcm ?_ | refine zcn ?_)
          first | refine zcp (by kernel_rfl) ?_ | refine zcq PP_mixed (by kernel_rfl) (by kernel_rfl) ?_
          repeat' (refine zap rfl ?_; first | refine zan rfl ?_ | refine zan rfl ?_)
          all_goals refine zch ?_
          all_goals repeat (first | refine zck ?_ | refine zcl ?_ | refine zcm ?_ | refine zcn ?_)
          have hsp := ih (at_ + i) (d + 1) lf lb (by omega) ⟨hlf, by omega⟩ (by omega)
          rw [show ((d + 1 : Nat) : Int) = (d : Int) + 1 by omega] at hsp
          repeat (first | refine zck ?_ | refine zcl ?_ | refine zcm ?_ | refine zcn ?_)
          first | refine zcp (by kernel_rfl) ?_ | refine zcq PP_mixed (by kernel_rfl) (by kernel_rfl) ?_
          repeat' (refine zap rfl ?_; first | refine zan rfl ?_ | refine zan rfl ?_ | refine zaa 0 rfl rfl rfl ?_ | (refine reg_callX [0, 0] hG (T.all_walkK k _ (d + 1) lf hlf) hsp rfl rfl rfl sub_nil ?_; rintro r s v' Γ1 hφ hwr hG; obtain ⟨a2, c2, h3, h4⟩ := hwr; subst h3; subst h4) | refine zan rfl ?_ | refine zau rfl rfl (by omega) ?_)
          all_goals refine zch ?_
          all_goals repeat (first | refine zck ?_ | refine zcl ?_ | refine zcm ?_ | refine zcn ?_)
          obtain ⟨⟨l2, ok2⟩, left2⟩ := r
          obtain ⟨hφ1, hφ2, hφ3⟩ := hφ
          dsimp only at hG hφ1 hφ2 hφ3
          cases ok2 with
          | false =>
            rw [if_neg (by decide)] at hG
            rw [hG.done]
            repeat' (first | refine zck ?_ | refine zcp (by kernel_rfl) ?_ | (refine zap rfl ?_; first | refine zan rfl ?_ | refine zan rfl ?_ | refine zbx rfl ?_) | refine zch ?_ | refine zci rfl ?_)
            refine run_nilslice 134 2 ?_
            refine run_take [0, 0, 2] rfl ?_
            exact qret2 (fun _ _ h => h) rfl ⟨_, rfl, none, 0, rfl, rfl⟩
          | true =>
            rw [if_pos rfl] at hG
            have hl2 := hφ3 rfl
            repeat' (first | refine zcp (by kernel_rfl) ?_ | refine zcm ?_ | refine zcn ?_ | (refine zap rfl ?_; first | refine zan rfl ?_ | refine zan rfl ?_ | refine reg_append_own (G := fun X a' cap' => [SpaceA p s, celT lb (.int .i64 left2) 3, X, SlA 134 2 a' (out.length + l2.length) cap' (prV out ++ prV l2)]) 3 2 rfl rfl rfl rfl (by decide) (prV_one _) rfl (by first | omega | (dsimp only; omega)) (fun _ _ _ => rfl) (fun X a' c' => ?_) | refine zau rfl rfl (by omega) ?_ | refine zbx rfl ?_) | refine zch ?_ | refine zcj rfl ?_)
            refine run_take [0, 0, 1] rfl ?_
            rw [← List.length_append, ← prV_append]
            exact cut_end ⟨rfl, (i + 1, out ++ l2, (a', c'), left2, s), ⟨rfl, rfl, rfl, rfl, rfl, rfl, int_eq (by dsimp only; omega), trivial⟩, ⟨rfl, by dsimp only; rw [show 8 - (i + 1) = k' by omega, show at_ + ((i + 1 : Nat) : Int) = at_ + i + 1 by omega]; exact hG, hlt, hl2, by dsimp only; rw [List.length_append]; omega⟩, by dsimp only; omega⟩
        · obtain rfl : i = 8 := by omega
          rw [Nat.sub_self, Tr.kids] at hG
          rw [hG.done]
          repeat (first | refine zck ?_ | refine zcl ?_ | refine zcm ?_ | refine zcn ?_)
          first | refine zcp (by kernel_rfl) ?_ | refine zcq PP_mixed (by kernel_rfl) (by kernel_rfl) ?_
          repeat' (refine zap rfl ?_; first | refine zbh rfl rfl (by omega) ?_)
          all_goals refine zch ?_
          all_goals repeat (first | refine zck ?_ | refine zcl ?_ | refine zcm ?_ | refine zcn ?_)
          refine zcj rfl ?_
          refine cut_exit rfl rfl ?_
          repeat' (first | refine zck ?_ | refine zcp (by kernel_rfl) ?_ | (refine zap rfl ?_; first | refine zan rfl ?_ | refine zan rfl ?_) | refine zch ?_)
          exact ret_tmp2 rfl ⟨_, rfl, a, c, rfl, rfl⟩
      · rw [if_neg hc] at hG
        rw [hG.done]
        cases b with
        | false =>
          repeat' (first | refine zck ?_ | refine zcp (by kernel_rfl) ?_ | (refine zap rfl ?_; first | refine zak rfl ?_ | refine zal rfl ?_ | refine zan rfl ?_ | refine zan rfl ?_ | refine zbx rfl ?_ | refine zbu rfl ?_) | refine zch ?_ | refine zci rfl ?_)
          refine run_nilslice 134 2 ?_
          exact ret_tmp2 rfl ⟨_, rfl, none, 0, rfl, rfl⟩
        | true =>
          by_cases hc2 : left - 1 < 0
          · repeat' (first | refine zck ?_ | refine zcp (by kernel_rfl) ?_ | (refine zap rfl ?_; first | refine zaj rfl ?_ | refine zak rfl ?_ | refine zal rfl ?_ | refine zan rfl ?_ | refine zan rfl ?_ | refine zab 1 rfl rfl rfl ?_ | refine zbg rfl rfl (by omega) ?_ | refine zbx rfl ?_ | refine zbu rfl ?_ | refine zbv rfl ?_ | refine zan rfl ?_) | refine zch ?_ | refine zci rfl ?_)
            refine run_nilslice 134 2 ?_
            exact ret_tmp2 rfl ⟨_, rfl, none, 0, rfl, rfl⟩
          · have hc3 : d = 4 := Classical.byContradiction fun h => hc ⟨rfl, by omega, h⟩
            repeat' (first | refine zck ?_ | refine zcp (by kernel_rfl) ?_ | (refine zap rfl ?_; first | refine zaj rfl ?_ | refine zan rfl ?_ | refine zan rfl ?_ | refine zab 1 rfl rfl rfl ?_ | refine zbc rfl rfl (by omega) ?_ | refine zbh rfl rfl (by omega) ?_ | refine zbx rfl ?_ | refine zbu rfl ?_ | refine zbv rfl ?_ | refine zan rfl ?_) | refine zch ?_ | refine zci rfl ?_)
            refine run_nilslice 134 2 ?_
            exact ret_tmp2 rfl ⟨_, rfl, none, 0, rfl, rfl⟩
    · rw [if_neg hx0] at hG
      repeat (first | refine zck ?_ | refine zcl ?_ | refine zcm ?_ | refine zcn ?_)
      first | refine zcp (by kernel_rfl) ?_ | refine zcq PP_mixed (by kernel_rfl) (by kernel_rfl) ?_
      repeat' (refine zap rfl ?_; first | refine zan rfl ?_ | refine zan rfl ?_ | refine zbh rfl rfl (by omega) ?_)
      all_goals refine zch ?_
      all_goals repeat (first | refine zck ?_ | refine zcl ?_ | refine zcm ?_ | refine zcn ?_)
      repeat (first | refine zck ?_ | refine zcl ?_ | refine zcm ?_ | refine zcn ?_)
      first | refine zcp (by kernel_rfl) ?_ | refine zcq PP_mixed (by kernel_rfl) (by kernel_rfl) ?_
      repeat' (refine zap rfl ?_; first | refine zan rfl ?_)
      all_goals refine zch ?_
      all_goals repeat (first | refine zck ?_ | refine zcl ?_ | refine zcm ?_ | refine zcn ?_)
      refine zcj rfl ?_
      repeat (first | refine zck ?_ | refine zcl ?_ | refine zcm ?_ | refine zcn ?_)
      first | refine zcp (by kernel_rfl) ?_ | refine zcq PP_mixed (by kernel_rfl) (by kernel_rfl) ?_
      repeat' (refine zap rfl ?_; first | refine zan rfl ?_ | refine zan rfl ?_ | refine zaa 0 rfl rfl rfl ?_ | refine zah [] (trNode w0 T hT _) rfl rfl rfl sub_nil rfl ?_ | refine zan rfl ?_)
      all_goals refine zch ?_
      all_goals repeat (first | refine zck ?_ | refine zcl ?_ | refine zcm ?_ | refine zcn ?_)
      repeat (first | refine zck ?_ | refine zcl ?_ | refine zcm ?_ | refine zcn ?_)
      first | refine zcp (by kernel_rfl) ?_ | refine zcq PP_mixed (by kernel_rfl) (by kernel_rfl) ?_
      repeat' (refine zap rfl ?_; first | refine zan rfl ?_ | refine zab 1 rfl rfl rfl ?_ | refine zav rfl rfl (by omega) ?_ | refine zae 1 rfl rfl rfl rfl rfl rfl rfl ?_ | refine zan rfl ?_)
      all_goals refine zch ?_
      all_goals repeat (first | refine zck ?_ | refine zcl ?_ | refine zcm ?_ | refine zcn ?_)
      have hnb := Tr.nodeN_bd x
      generalize hb : T.nodeB x = b at hG ⊢
      generalize Tr.nodeN x = at_ at hG hnb ⊢
      by_cases hc : b = true ∧ 0 ≤ left - 1
      · rw [if_pos hc] at hG
        obtain ⟨rfl, hc2⟩ := hc
        repeat (first | refine zck ?_ | refine zcl ?_ | refine zcm ?_ | refine zcn ?_)
        first | refine zcp (by kernel_rfl) ?_ | refine zcq PP_mixed (by kernel_rfl) (by kernel_rfl) ?_
        repeat' (refine zap rfl ?_; first | refine zaj rfl ?_ | refine zak rfl ?_ | refine zan rfl ?_ | refine zab 1 rfl rfl rfl ?_ | refine zbh rfl rfl (by omega) ?_ | refine zbx rfl ?_ | refine zbv rfl ?_ | refine zan rfl ?_)
        all_goals refine zch ?_
        all_goals repeat (first | refine zck ?_ | refine zcl ?_ | refine zcm ?_ | refine zcn ?_)
        refine zcj rfl ?_
        repeat (first | refine zck ?_ | refine zcl ?_ | refine zcm ?_ | refine zcn ?_)
        first | refine zcp (by kernel_rfl) ?_ | refine zcq PP_mixed (by kernel_rfl) (by kernel_rfl) ?_
        repeat' (refine zap rfl ?_; first | refine zan rfl ?_ | refine zbx rfl ?_)
        all_goals refine zch ?_
        all_goals repeat (first | refine zck ?_ | refine zcl ?_ | refine zcm ?_ | refine zcn ?_)
        refine zci rfl ?_
        repeat (first | refine zck ?_ | refine zcl ?_ | refine zcm ?_ | refine zcn ?_)
        first | refine zcp (by kernel_rfl) ?_ | refine zcq PP_mixed (by kernel_rfl) (by kernel_rfl) ?_
        repeat' (refine zap rfl ?_; first | refine reg_buildSlice rfl rfl rfl rfl rfl rfl (fun nb2 => ?_) | refine zan rfl ?_ | refine zan rfl ?_ | refine reg_callG [0] hG (getG w0 p _) rfl rfl rfl sub_nil (fun v s hG => ?_) | refine zau rfl rfl (by omega) ?_ | refine zcb rfl ?_)
        all_goals refine zch ?_
        all_goals repeat (first | refine zck ?_ | refine zcl ?_ | refine zcm ?_ | refine zcn ?_)
        rename_i n s2 hG2
        refine run_exch 2 (SlA 134 2 (some ⟨nb2, 0, none⟩) 1 1 (prV [(n, v)])) rfl (SlA_pt rfl) rfl ?_
        by_cases h4 : d < 4
        · rw [if_pos h4] at hG
          rw [hG.done]
          repeat' (first | refine zck ?_ | refine zcp (by kernel_rfl) ?_ | (refine zap rfl ?_; first | refine zan rfl ?_ | refine zan rfl ?_ | refine zbg rfl rfl (by omega) ?_) | refine zch ?_ | refine zci rfl ?_)
          exact ret_tmp2 rfl ⟨_, rfl, some ⟨nb2, 0, none⟩, 1, rfl, rfl⟩
        · rw [if_neg h4] at hG
          repeat (first | refine zck ?_ | refine zcl ?_ | refine zcm ?_ | refine zcn ?_)
          first | refine zcp (by kernel_rfl) ?_ | refine zcq PP_mixed (by kernel_rfl) (by kernel_rfl) ?_
          repeat' (refine zap rfl ?_; first | refine zan rfl ?_ | refine zbh rfl rfl (by omega) ?_)
          all_goals refine zch ?_
          all_goals repeat (first | refine zck ?_ | refine zcl ?_ | refine zcm ?_ | refine zcn ?_)
          refine zcj rfl ?_
          repeat (first | refine zck ?_ | refine zcl ?_ | refine zcm ?_ | refine zcn ?_)
          first | refine zcp (by kernel_rfl) ?_ | refine zcq PP_mixed (by kernel_rfl) (by kernel_rfl) ?_
          repeat' (refine zap rfl ?_; first | refine zan rfl ?_ | refine reg_callG [0] hG (getG w0 p _) rfl rfl rfl sub_nil (fun y s hG => ?_) | refine zau rfl rfl (by omega) ?_ | refine zbq rfl rfl ?_)
          all_goals refine zch ?_
          all_goals repeat (first | refine zck ?_ | refine zcl ?_ | refine zcm ?_ | refine zcn ?_)
          refine run_cond rfl (fun hy => ?_) (fun hy => ?_)
          · rw [if_pos hy] at hG
            rw [hG.done]
            repeat' (first | refine zck ?_ | refine zcp (by kernel_rfl) ?_ | (refine zap rfl ?_; first | refine zan rfl ?_) | refine zch ?_)
            refine run_nilslice 134 2 ?_
            refine run_take [0, 0, 1] rfl ?_
            exact ret_tmp2 rfl ⟨_, rfl, none, 0, rfl, rfl⟩
          · rw [if_neg hy] at hG
            have hsp := ih (at_ + 2) d (left - 1) lb hd ⟨hc2, by omega⟩ (by omega)
            repeat (first | refine zck ?_ | refine zcl ?_ | refine zcm ?_ | refine zcn ?_)
            first | refine zcp (by kernel_rfl) ?_ | refine zcq PP_mixed (by kernel_rfl) (by kernel_rfl) ?_
            repeat' (refine zap rfl ?_; first | refine zan rfl ?_ | refine zan rfl ?_ | refine zaa 0 rfl rfl rfl ?_ | (refine reg_callX [0, 0] hG (T.all_walkK k _ d (left - 1) hc2) hsp rfl rfl rfl sub_nil ?_; rintro r s v' Γ1 hφ hwr hG; obtain ⟨a2, c2, h3, h4⟩ := hwr; subst h3; subst h4) | refine zan rfl ?_ | refine zau rfl rfl (by omega) ?_)
            all_goals refine zch ?_
            all_goals repeat (first | refine zck ?_ | refine zcl ?_ | refine zcm ?_ | refine zcn ?_)
            obtain ⟨⟨l2, ok2⟩, left2⟩ := r
            obtain ⟨hφ1, hφ2, hφ3⟩ := hφ
            dsimp only at hG hφ1 hφ2 hφ3
            rw [hG.done]
            repeat' (first | refine zcp (by kernel_rfl) ?_ | (refine zap rfl ?_; first | refine zan rfl ?_ | refine zan rfl ?_ | refine reg_append_own (G := fun X a' cap' => [SpaceA p s, celT lb (.int .i64 left2) 3, X, SlA 134 2 a' (1 + l2.length) cap' (prV [(n, v)] ++ prV l2)]) 3 2 rfl rfl rfl rfl (by decide) (prV_one _) rfl (by first | omega | (dsimp only; omega)) (fun _ _ _ => rfl) (fun X a' c' => ?_)) | refine zch ?_)
            refine run_take [0, 0, 1] rfl ?_
            have e1 : 1 + l2.length = ((n, v) :: l2).length := by rw [List.length_cons]; omega
            have e2 : prV [(n, v)] ++ prV l2 = prV ((n, v) :: l2) := by rw [prV_cons]; rfl
            exact ret_tmp2 rfl ⟨_, rfl, a', c', congrArg (fun q => Value.tuple #[.slice a' q c', .bool ok2]) e1, congrArg (fun (z : Nat × List Value) => [celT lb (.int .i64 left2) 3, SlA 134 2 a' z.1 c' z.2]) (Prod.ext (x := (_, _)) (y := (_, _)) e1 e2)⟩
      · rw [if_neg hc] at hG
        rw [hG.done]
        cases b with
        | false =>
          repeat' (first | refine zck ?_ | refine zcp (by kernel_rfl) ?_ | (refine zap rfl ?_; first | refine zak rfl ?_ | refine zal rfl ?_ | refine zan rfl ?_ | refine zan rfl ?_ | refine zbx rfl ?_ | refine zbu rfl ?_) | refine zch ?_ | refine zci rfl ?_)
          refine run_nilslice 134 2 ?_
          exact ret_tmp2 rfl ⟨_, rfl, none, 0, rfl, rfl⟩
        | true =>
          have hc2 : left - 1 < 0 := Classical.byContradiction fun h => hc ⟨rfl, by omega⟩
          repeat' (first | refine zck ?_ | refine zcp (by kernel_rfl) ?_ | (refine zap rfl ?_; first | refine zaj rfl ?_ | refine zak rfl ?_ | refine zal rfl ?_ | refine zan rfl ?_ | refine zan rfl ?_ | refine zab 1 rfl rfl rfl ?_ | refine zbg rfl rfl (by omega) ?_ | refine zbx rfl ?_ | refine zbu rfl ?_ | refine zbv rfl ?_ | refine zan rfl ?_) | refine zch ?_ | refine zci rfl ?_)
          refine run_nilslice 134 2 ?_
          exact ret_tmp2 rfl ⟨_, rfl, none, 0, rfl, rfl⟩
end Go.Proofs.YtloekplbhknepaaGreat

namespace Go.Proofs.YtloekplbhknepaaGreat.SF
open Go.Vc
def cmpI (x y : Int) : Int := if x < y then -1 else if x = y then 0 else 1
def cmpC (x y : Int × Int) : Int := cmpI x.1 y.1
def ltP (x y : Int × Int) : Bool := decide (cmpC x y < 0)
theorem cmpI_lt {x y : Int} : cmpI x y < 0 ↔ x < y := by
  unfold cmpI
  split
  · omega
  · split <;> omega
theorem ltP_iff {x y : Int × Int} : ltP x y = true ↔ x.1 < y.1 := by unfold ltP cmpC; rw [decide_eq_true_eq, cmpI_lt]
theorem ltP_not {x y : Int × Int} : ltP x y = false ↔ y.1 ≤ x.1 := by unfold ltP cmpC; rw [decide_eq_false_iff_not, cmpI_lt]; omega
theorem swo_ltP : Go.Sort.SWO ltP where
  irrefl x := ltP_not.2 (Int.le_refl _)
  trans x y z h1 h2 := by rw [ltP_iff] at *; omega
  ntrans x y z h1 h2 := by rw [ltP_not] at *; omega
def CmpF (F : FuncId) : Prop := ∀ (w0 : World) (x y : Int × Int), FnE PP w0 [] F [prVal x, prVal y] [] (.int .i64 (cmpC x y)) []
end Go.Proofs.YtloekplbhknepaaGreat.SF

namespace Go.Proofs.YtloekplbhknepaaGreat.SF
open Go.Vc
open Go.Sort (swp insInner insOuter insertionSort)

theorem ins_step {a j : Nat} {d : Array (Int × Int)} (h : a < j + 1) (hl : ltP d[j + 1]! d[j]! = true) : insInner ltP a (j + 1) d = insInner ltP a j (swp d (j + 1) j) := by
  rw [insInner]; simp [h, hl]
theorem ins_stop {a j : Nat} {d : Array (Int × Int)} (hl : ltP d[j + 1]! d[j]! = false) : insInner ltP a (j + 1) d = d := by
  rw [insInner]; simp [hl]
theorem ins_end {a j : Nat} {d : Array (Int × Int)} (h : j ≤ a) : insInner ltP a j d = d := by
  cases j with
  | zero => rfl
  | succ j => rw [insInner]; simp; omega
theorem insOuter_lt {a b i : Nat} {d : Array (Int × Int)} (h : i < b) : insOuter ltP a b i d = insOuter ltP a b (i + 1) (insInner ltP a i d) := by
  rw [insOuter, if_pos h]
theorem insOuter_ge {a b i : Nat} {d : Array (Int × Int)} (h : b ≤ i) : insOuter ltP a b i d = d := by
  rw [insOuter, if_neg (by omega)]
theorem ins_spec (w0 : World) (F : FuncId) (hcF : CmpF F) (bb N cap : Nat) (D : Array (Int × Int)) (a b : Nat) (hN : N ≤ 4611686018427387903) (hab : a ≤ b) (hb : b ≤ N) (hD : D.size = N) :
    FnE PP w0 [] 110 [.slice (some ⟨bb, 0, none⟩) N cap, .int .i64 a, .int .i64 b, .func (.func F) #[] #[]] [Dat2 134 bb N cap D] (.tuple #[]) [Dat2 134 bb N cap (insertionSort ltP D a b)] := by
  refine fn_of_run en110 fn110 rfl rfl rfl ?_
  repeat' (first | refine zck ?_ | refine zcp (by kernel_rfl) ?_ | refine zcl ?_ | (refine zap rfl ?_; first | refine zan rfl ?_ | refine zan rfl ?_ | refine zau rfl rfl (by omega) ?_) | refine zch ?_)
  refine run_loop (S := Nat × Array (Int × Int)) (fun s => [(0, .slice (some ⟨bb, 0, none⟩) N cap), (3, .func (.func F) #[] #[]), (1, .int .i64 a), (2, .int .i64 b), (8, .int .i64 s.1)])
    (fun s Γ => Γ = [Dat2 134 bb N cap s.2] ∧ a < s.1 ∧ s.1 ≤ b + 1 ∧ s.2.size = N ∧ insOuter ltP a b s.1 s.2 = insertionSort ltP D a b)
    (fun s => b + 1 - s.1) (a + 1, D) ⟨rfl, rfl, rfl, rfl, rfl, trivial⟩ ⟨rfl, by omega, by omega, hD, rfl⟩ ?_
  rintro ⟨i, d⟩ Γ junk ⟨rfl, h1, h2, h3, h4⟩
  dsimp only at h1 h2 h3 h4 ⊢
  by_cases hi : i < b
  · repeat' (first | refine zck ?_ | refine zcp (by kernel_rfl) ?_ | refine zcm ?_ | refine zcl ?_ | (refine zap rfl ?_; first | refine zan rfl ?_ | refine zan rfl ?_ | refine zbg rfl rfl (by omega) ?_) | refine zch ?_ | refine zci rfl ?_)
    refine run_loop (S := Nat × Array (Int × Int)) (fun s => [(0, .slice (some ⟨bb, 0, none⟩) N cap), (3, .func (.func F) #[] #[]), (1, .int .i64 a), (2, .int .i64 b), (8, .int .i64 i), (9, .int .i64 s.1)])
      (fun s Γ => Γ = [Dat2 134 bb N cap s.2] ∧ a ≤ s.1 ∧ s.1 ≤ i ∧ s.2.size = N ∧ insInner ltP a s.1 s.2 = insInner ltP a i d)
      (fun s => s.1) (i, d) ⟨rfl, rfl, rfl, rfl, rfl, rfl, trivial⟩ ⟨rfl, by omega, by omega, h3, rfl⟩ ?_
    rintro ⟨j, e⟩ Γ junk ⟨rfl, g1, g2, g3, g4⟩
    dsimp only at g1 g2 g3 g4 ⊢
    by_cases hj : a < j
    · obtain ⟨j, rfl⟩ : ∃ m, j = m + 1 := ⟨j - 1, by omega⟩
      repeat' (first | refine zck ?_ | refine run_drawR PP_mixed (by kernel_rfl) (by kernel_rfl) ?_ | (refine zap rfl ?_; first | refine reg_load_d2 0 rfl rfl (by omega) ?_ | refine zaj rfl ?_ | refine zan rfl ?_ | refine zah [] (hcF w0 _ _) rfl rfl rfl sub_nil rfl ?_ | refine zbk rfl rfl (by omega) ?_ | refine zav rfl rfl (by omega) ?_ | refine zbq rfl rfl ?_ | refine zbu rfl ?_ | refine zas rfl rfl (by omega) ?_) | refine zch ?_)
      have e1 : ((j + 1 : Nat) : Int).toNat = j + 1 := by omega
      have e2 : (((j + 1 : Nat) : Int) - 1).toNat = j := by omega
      refine run_cond rfl (fun hE => ?_) (fun hE => ?_)
      · repeat' (first | refine zck ?_ | refine zcp (by kernel_rfl) ?_ | refine run_drawR PP_mixed (by kernel_rfl) (by kernel_rfl) ?_ | refine zcm ?_ | refine zcl ?_ | refine zcn ?_ | (refine zap rfl ?_; first | refine reg_load_d2 0 rfl rfl (by omega) ?_ | refine reg_store_d2 0 rfl rfl rfl (by omega) rfl ?_ | refine zan rfl ?_ | refine zan rfl ?_ | refine zav rfl rfl (by omega) ?_ | refine zas rfl rfl (by omega) ?_) | refine zch ?_)
        rw [e1, e2] at hE
        refine cut_end ⟨rfl, (j, swp e (j + 1) j), ⟨rfl, rfl, rfl, rfl, rfl, int_eq (by omega), trivial⟩, ⟨?_, by omega, by omega, ?_, ?_⟩, by omega⟩
        · rw [e1, e2]; rfl
        · rw [Go.Sort.size_swp]; exact g3
        · rw [← g4, ins_step hj (decide_eq_true hE)]
      · rw [e1, e2] at hE
        refine cut_exit rfl rfl ?_
        repeat' (first | refine zcp (by kernel_rfl) ?_ | refine zcn ?_ | (refine zap rfl ?_; first | refine zan rfl ?_ | refine zan rfl ?_ | refine zau rfl rfl (by omega) ?_) | refine zch ?_)
        refine cut_end ⟨rfl, (i + 1, e), ⟨rfl, rfl, rfl, rfl, int_eq (by omega), trivial⟩, ⟨rfl, by omega, by omega, g3, ?_⟩, by omega⟩
        rw [ins_stop (decide_eq_false hE)] at g4
        rw [← h4, insOuter_lt hi, ← g4]
    · repeat' (first | refine zck ?_ | refine run_drawR PP_mixed (by kernel_rfl) (by kernel_rfl) ?_ | (refine zap rfl ?_; first | refine zak rfl ?_ | refine zan rfl ?_ | refine zbl rfl rfl (by omega) ?_ | refine zbv rfl ?_) | refine zch ?_ | refine zcj rfl ?_)
      refine cut_exit rfl rfl ?_
      repeat' (first | refine zcp (by kernel_rfl) ?_ | refine zcn ?_ | (refine zap rfl ?_; first | refine zan rfl ?_ | refine zan rfl ?_ | refine zau rfl rfl (by omega) ?_) | refine zch ?_)
      refine cut_end ⟨rfl, (i + 1, e), ⟨rfl, rfl, rfl, rfl, int_eq (by omega), trivial⟩, ⟨rfl, by omega, by omega, g3, ?_⟩, by omega⟩
      rw [ins_end (by omega)] at g4
      rw [← h4, insOuter_lt hi, ← g4]
  · repeat' (first | refine zck ?_ | refine zcp (by kernel_rfl) ?_ | (refine zap rfl ?_; first | refine zan rfl ?_ | refine zbh rfl rfl (by omega) ?_) | refine zch ?_ | refine zcj rfl ?_)
    refine cut_exit rfl rfl ?_
    repeat' (first | refine zck ?_ | (refine zap rfl ?_; first | refine zaj rfl ?_ | refine zak rfl ?_ | refine zal rfl ?_ | refine zam rfl rfl (fun _ => ?_) (fun _ => ?_)) | refine zch ?_)
    refine end_tmp0 rfl ⟨rfl, ?_⟩
    rw [← h4, insOuter_ge (by omega)]
end Go.Proofs.YtloekplbhknepaaGreat.SF

namespace Go.Proofs.YtloekplbhknepaaGreat.SF
open Go.Vc
open Go.Sort (swp reverseLoop reverseRange siftDown heapBuild heapPop heapSort)

theorem revl_lt {i j : Nat} {d : Array (Int × Int)} (h : i < j) : reverseLoop i j d = reverseLoop (i + 1) (j - 1) (swp d i j) := by
  rw [reverseLoop, if_pos h]
theorem revl_ge {i j : Nat} {d : Array (Int × Int)} (h : j ≤ i) : reverseLoop i j d = d := by
  rw [reverseLoop, if_neg (by omega)]
theorem rev_spec (w0 : World) (F : FuncId) (hcF : CmpF F) (bb N cap : Nat) (D : Array (Int × Int)) (a b : Nat) (hN : N ≤ 4611686018427387903) (hab : a < b) (hb : b ≤ N) (hD : D.size = N) :
    FnE PP w0 [] 114 [.slice (some ⟨bb, 0, none⟩) N cap, .int .i64 a, .int .i64 b, .func (.func F) #[] #[]] [Dat2 134 bb N cap D] (.tuple #[]) [Dat2 134 bb N cap (reverseRange D a b)] := by
  refine fn_of_run en114 fn114 rfl rfl rfl ?_
  repeat' (first | refine zck ?_ | refine zcp (by kernel_rfl) ?_ | refine zcl ?_ | (refine zap rfl ?_; first | refine zan rfl ?_ | refine zan rfl ?_ | refine zav rfl rfl (by omega) ?_) | refine zch ?_)
  refine run_loop (S := Nat × Nat × Array (Int × Int)) (fun s => [(0, .slice (some ⟨bb, 0, none⟩) N cap), (3, .func (.func F) #[] #[]), (8, .int .i64 s.1), (9, .int .i64 s.2.1)])
    (fun s Γ => Γ = [Dat2 134 bb N cap s.2.2] ∧ s.1 ≤ s.2.1 + 1 ∧ s.2.1 < b ∧ s.2.2.size = N ∧ reverseLoop s.1 s.2.1 s.2.2 = reverseRange D a b)
    (fun s => s.2.1 + 1 - s.1) (a, b - 1, D) ⟨rfl, rfl, rfl, int_eq (by dsimp only; omega), trivial⟩ ⟨rfl, by dsimp only; omega, by dsimp only; omega, hD, rfl⟩ ?_
  rintro ⟨i, j, d⟩ Γ junk ⟨rfl, h1, h2, h3, h4⟩
  dsimp only at h1 h2 h3 h4 ⊢
  by_cases hi : i < j
  · repeat' (first | refine zck ?_ | refine zcp (by kernel_rfl) ?_ | refine run_drawR PP_mixed (by kernel_rfl) (by kernel_rfl) ?_ | refine zcm ?_ | refine zcl ?_ | refine zcn ?_ | (refine zap rfl ?_; first | refine reg_load_d2 0 rfl rfl (by omega) ?_ | refine reg_store_d2 0 rfl rfl rfl (by omega) rfl ?_ | refine zan rfl ?_ | refine zan rfl ?_ | refine zbg rfl rfl (by omega) ?_ | refine zau rfl rfl (by omega) ?_ | refine zav rfl rfl (by omega) ?_ | refine zas rfl rfl (by omega) ?_) | refine zch ?_ | refine zci rfl ?_)
    have e1 : ((i : Nat) : Int).toNat = i := by omega
    have e2 : ((j : Nat) : Int).toNat = j := by omega
    refine cut_end ⟨rfl, (i + 1, j - 1, swp d i j), ⟨rfl, rfl, int_eq (by dsimp only; omega), int_eq (by dsimp only; omega), trivial⟩, ⟨?_, by dsimp only; omega, by dsimp only; omega, ?_, ?_⟩, by dsimp only; omega⟩
    · rw [e1, e2]; rfl
    · rw [Go.Sort.size_swp]; exact h3
    · rw [← h4, revl_lt hi]
  · repeat' (first | refine zck ?_ | refine zcp (by kernel_rfl) ?_ | (refine zap rfl ?_; first | refine zan rfl ?_ | refine zbh rfl rfl (by omega) ?_) | refine zch ?_ | refine zcj rfl ?_)
    refine cut_exit rfl rfl ?_
    repeat' (first | refine zck ?_ | (refine zap rfl ?_; first | refine zan rfl ?_) | refine zch ?_)
    refine end_tmp0 rfl ⟨rfl, ?_⟩
    rw [← h4, revl_ge (by omega)]

theorem sift_ge {hi first root : Nat} {d : Array (Int × Int)} (h : hi ≤ 2 * root + 1) : siftDown ltP hi first root d = d := by
  rw [siftDown, dif_pos h]
def gch (hi first root : Nat) (d : Array (Int × Int)) : Nat := if 2 * root + 1 + 1 < hi && ltP d[first + (2 * root + 1)]! d[first + (2 * root + 1) + 1]! then 2 * root + 2 else 2 * root + 1
theorem gch_lt {hi first root : Nat} {d : Array (Int × Int)} (h : 2 * root + 1 < hi) : gch hi first root d < hi ∧ root < gch hi first root d := by
  unfold gch
  split
  · rename_i hc; simp at hc; omega
  · omega
theorem sift_stop {hi first root : Nat} {d : Array (Int × Int)} (h : 2 * root + 1 < hi) (hl : ltP d[first + root]! d[first + gch hi first root d]! = false) : siftDown ltP hi first root d = d := by
  rw [siftDown, dif_neg (by omega)]
  unfold gch at hl
  split
  · rename_i hc; rw [if_pos hc] at hl; simp [hl]
  · rename_i hc; rw [if_neg hc] at hl; simp [hl]
theorem sift_go {hi first root : Nat} {d : Array (Int × Int)} (h : 2 * root + 1 < hi) (hl : ltP d[first + root]! d[first + gch hi first root d]! = true) :
    siftDown ltP hi first root d = siftDown ltP hi first (gch hi first root d) (swp d (first + root) (first + gch hi first root d)) := by
  rw [siftDown, dif_neg (by omega)]
  unfold gch at hl ⊢
  split
  · rename_i hc; rw [if_pos hc] at hl; simp only [hl, Bool.not_true, Bool.false_eq_true, if_false]; rw [dif_pos (by simp at hc; omega)]
  · rename_i hc; rw [if_neg hc] at hl; simp only [hl, Bool.not_true, Bool.false_eq_true, if_false]
set_option maxHeartbeats 2000000 in
theorem sift_spec (w0 : World) (F : FuncId) (hcF : CmpF F) (bb N cap : Nat) (D : Array (Int × Int)) (lo hi first : Nat) (hN : N ≤ 1152921504606846975) (hf : first + hi ≤ N) (hlo : lo ≤ hi) (hD : D.size = N) :
    FnE PP w0 [] 132 [.slice (some ⟨bb, 0, none⟩) N cap, .int .i64 lo, .int .i64 hi, .int .i64 first, .func (.func F) #[] #[]] [Dat2 134 bb N cap D] (.tuple #[]) [Dat2 134 bb N cap (siftDown ltP hi first lo D)] := by
  refine fn_of_run en132 fn132 rfl rfl rfl ?_
  repeat' (first | refine zck ?_ | refine zcp (by kernel_rfl) ?_ | refine zcl ?_ | (refine zap rfl ?_; first | refine zan rfl ?_ | refine zan rfl ?_) | refine zch ?_)
  refine run_loop (S := Nat × Array (Int × Int)) (fun s => [(0, .slice (some ⟨bb, 0, none⟩) N cap), (4, .func (.func F) #[] #[]), (2, .int .i64 hi), (3, .int .i64 first), (10, .int .i64 s.1)])
    (fun s Γ => Γ = [Dat2 134 bb N cap s.2] ∧ s.1 ≤ hi ∧ s.2.size = N ∧ siftDown ltP hi first s.1 s.2 = siftDown ltP hi first lo D)
    (fun s => hi - s.1) (lo, D) ⟨rfl, rfl, rfl, rfl, rfl, trivial⟩ ⟨rfl, by omega, hD, rfl⟩ ?_
  rintro ⟨r, d⟩ Γ junk ⟨rfl, h1, h3, h4⟩
  dsimp only at h1 h3 h4 ⊢
  by_cases hi2 : 2 * r + 1 < hi
  · have e3 : ((first : Int) + (2 * (r : Int) + 1)).toNat = first + (2 * r + 1) := by omega
    have e4 : ((first : Int) + (2 * (r : Int) + 1) + 1).toNat = first + (2 * r + 1) + 1 := by omega
    by_cases hc : 2 * r + 2 < hi
    · repeat' (first | refine zck ?_ | refine zcp (by kernel_rfl) ?_ | refine run_drawR PP_mixed (by kernel_rfl) (by kernel_rfl) ?_ | refine zcm ?_ | refine zcl ?_ | (refine zap rfl ?_; first | refine reg_load_d2 0 rfl rfl (by omega) ?_ | refine zaj rfl ?_ | refine zan rfl ?_ | refine zan rfl ?_ | refine zah [] (hcF w0 _ _) rfl rfl rfl sub_nil rfl ?_ | refine zbg rfl rfl (by omega) ?_ | refine zbn rfl rfl (by omega) ?_ | refine zau rfl rfl (by omega) ?_ | refine zaw rfl rfl (by omega) ?_ | refine zbq rfl rfl ?_ | refine zbu rfl ?_ | refine zas rfl rfl (by omega) ?_) | refine zch ?_ | refine zcj rfl ?_)
      refine run_cond rfl (fun hE => ?_) (fun hE => ?_)
      · have hg : gch hi first r d = 2 * r + 2 := by
          unfold gch; rw [if_pos]
          rw [e3, e4] at hE
          simp only [Bool.and_eq_true, decide_eq_true_eq]; exact ⟨by omega, decide_eq_true hE⟩
        have e1 : ((first : Int) + (r : Int)).toNat = first + r := by omega
        have e2 : ((first : Int) + (2 * (r : Int) + 1 + 1)).toNat = first + (2 * r + 2) := by omega
        repeat' (first | refine zck ?_ | refine zcp (by kernel_rfl) ?_ | refine run_drawR PP_mixed (by kernel_rfl) (by kernel_rfl) ?_ | (refine zap rfl ?_; first | refine reg_load_d2 0 rfl rfl (by omega) ?_ | refine zan rfl ?_ | refine zan rfl ?_ | refine zah [] (hcF w0 _ _) rfl rfl rfl sub_nil rfl ?_ | refine zau rfl rfl (by omega) ?_ | refine zbq rfl rfl ?_ | refine zby rfl ?_ | refine zas rfl rfl (by omega) ?_) | refine zch ?_)
        refine run_cond rfl (fun hE2 => ?_) (fun hE2 => ?_)
        · rw [e1, e2] at hE2
          refine qret0 (fun _ _ h => h) rfl ⟨rfl, (show [_] = [_] from ?_)⟩
          rw [← h4, sift_stop hi2 (by rw [hg]; exact decide_eq_false (by simpa using hE2))]
        · rw [e1, e2] at hE2
          repeat' (first | refine zck ?_ | refine zcp (by kernel_rfl) ?_ | refine run_drawR PP_mixed (by kernel_rfl) (by kernel_rfl) ?_ | refine zcm ?_ | refine zcn ?_ | (refine zap rfl ?_; first | refine reg_load_d2 0 rfl rfl (by omega) ?_ | refine reg_store_d2 0 rfl rfl rfl (by omega) rfl ?_ | refine zan rfl ?_ | refine zan rfl ?_ | refine zau rfl rfl (by omega) ?_ | refine zas rfl rfl (by omega) ?_) | refine zch ?_)
          refine cut_end ⟨rfl, (2 * r + 2, swp d (first + r) (first + (2 * r + 2))), ⟨rfl, rfl, rfl, rfl, int_eq (by dsimp only; omega), trivial⟩, ⟨?_, by dsimp only; omega, ?_, ?_⟩, by dsimp only; omega⟩
          · rw [e1, e2]; rfl
          · rw [Go.Sort.size_swp]; exact h3
          · rw [← h4, sift_go hi2 (by rw [hg]; exact decide_eq_true (by simpa using hE2)), hg]
      · have hg : gch hi first r d = 2 * r + 1 := by
          unfold gch; rw [if_neg]
          rw [e3, e4] at hE
          simp only [Bool.and_eq_true, decide_eq_true_eq, not_and]; intro _ h; exact hE (of_decide_eq_true h)
        have e1 : ((first : Int) + (r : Int)).toNat = first + r := by omega
        have e2 : ((first : Int) + (2 * (r : Int) + 1)).toNat = first + (2 * r + 1) := by omega
        repeat' (first | refine zck ?_ | refine run_drawR PP_mixed (by kernel_rfl) (by kernel_rfl) ?_ | refine zcm ?_ | (refine zap rfl ?_; first | refine reg_load_d2 0 rfl rfl (by omega) ?_ | refine zan rfl ?_ | refine zah [] (hcF w0 _ _) rfl rfl rfl sub_nil rfl ?_ | refine zau rfl rfl (by omega) ?_ | refine zbq rfl rfl ?_ | refine zby rfl ?_ | refine zas rfl rfl (by omega) ?_) | refine zch ?_)
        refine run_cond rfl (fun hE2 => ?_) (fun hE2 => ?_)
        · rw [e1, e2] at hE2
          refine qret0 (fun _ _ h => h) rfl ⟨rfl, (show [_] = [_] from ?_)⟩
          rw [← h4, sift_stop hi2 (by rw [hg]; exact decide_eq_false (by simpa using hE2))]
        · rw [e1, e2] at hE2
          repeat' (first | refine zck ?_ | refine zcp (by kernel_rfl) ?_ | refine run_drawR PP_mixed (by kernel_rfl) (by kernel_rfl) ?_ | refine zcm ?_ | refine zcn ?_ | (refine zap rfl ?_; first | refine reg_load_d2 0 rfl rfl (by omega) ?_ | refine reg_store_d2 0 rfl rfl rfl (by omega) rfl ?_ | refine zan rfl ?_ | refine zan rfl ?_ | refine zau rfl rfl (by omega) ?_ | refine zas rfl rfl (by omega) ?_) | refine zch ?_)
          refine cut_end ⟨rfl, (2 * r + 1, swp d (first + r) (first + (2 * r + 1))), ⟨rfl, rfl, rfl, rfl, int_eq (by dsimp only; omega), trivial⟩, ⟨?_, by dsimp only; omega, ?_, ?_⟩, by dsimp only; omega⟩
          · rw [e1, e2]; rfl
          · rw [Go.Sort.size_swp]; exact h3
          · rw [← h4, sift_go hi2 (by rw [hg]; exact decide_eq_true (by simpa using hE2)), hg]
    · have hg : gch hi first r d = 2 * r + 1 := by
        unfold gch; rw [if_neg]
        simp only [Bool.and_eq_true, decide_eq_true_eq, not_and]; intro h; omega
      have e1 : ((first : Int) + (r : Int)).toNat = first + r := by omega
      have e2 : ((first : Int) + (2 * (r : Int) + 1)).toNat = first + (2 * r + 1) := by omega
      repeat' (first | refine zck ?_ | refine zcp (by kernel_rfl) ?_ | refine run_drawR PP_mixed (by kernel_rfl) (by kernel_rfl) ?_ | refine zcm ?_ | refine zcl ?_ | (refine zap rfl ?_; first | refine reg_load_d2 0 rfl rfl (by omega) ?_ | refine zak rfl ?_ | refine zan rfl ?_ | refine zan rfl ?_ | refine zah [] (hcF w0 _ _) rfl rfl rfl sub_nil rfl ?_ | refine zbh rfl rfl (by omega) ?_ | refine zbn rfl rfl (by omega) ?_ | refine zau rfl rfl (by omega) ?_ | refine zaw rfl rfl (by omega) ?_ | refine zbq rfl rfl ?_ | refine zby rfl ?_ | refine zbv rfl ?_ | refine zas rfl rfl (by omega) ?_) | refine zch ?_ | refine zcj rfl ?_)
      refine run_cond rfl (fun hE2 => ?_) (fun hE2 => ?_)
      · rw [e1, e2] at hE2
        refine qret0 (fun _ _ h => h) rfl ⟨rfl, (show [_] = [_] from ?_)⟩
        rw [← h4, sift_stop hi2 (by rw [hg]; exact decide_eq_false (by simpa using hE2))]
      · rw [e1, e2] at hE2
        repeat' (first | refine zck ?_ | refine zcp (by kernel_rfl) ?_ | refine run_drawR PP_mixed (by kernel_rfl) (by kernel_rfl) ?_ | refine zcm ?_ | refine zcn ?_ | (refine zap rfl ?_; first | refine reg_load_d2 0 rfl rfl (by omega) ?_ | refine reg_store_d2 0 rfl rfl rfl (by omega) rfl ?_ | refine zan rfl ?_ | refine zan rfl ?_ | refine zau rfl rfl (by omega) ?_ | refine zas rfl rfl (by omega) ?_) | refine zch ?_)
        refine cut_end ⟨rfl, (2 * r + 1, swp d (first + r) (first + (2 * r + 1))), ⟨rfl, rfl, rfl, rfl, int_eq (by dsimp only; omega), trivial⟩, ⟨?_, by dsimp only; omega, ?_, ?_⟩, by dsimp only; omega⟩
        · rw [e1, e2]; rfl
        · rw [Go.Sort.size_swp]; exact h3
        · rw [← h4, sift_go hi2 (by rw [hg]; exact decide_eq_true (by simpa using hE2)), hg]
  · repeat' (first | refine zck ?_ | refine zcp (by kernel_rfl) ?_ | refine zcl ?_ | (refine zap rfl ?_; first | refine zan rfl ?_ | refine zan rfl ?_ | refine zbm rfl rfl (by omega) ?_ | refine zau rfl rfl (by omega) ?_ | refine zaw rfl rfl (by omega) ?_) | refine zch ?_ | refine zci rfl ?_)
    refine cut_exit rfl rfl ?_
    repeat' (first | refine zck ?_ | (refine zap rfl ?_; first | refine zaj rfl ?_ | refine zak rfl ?_ | refine zal rfl ?_ | refine zam rfl rfl (fun _ => ?_) (fun _ => ?_)) | refine zch ?_)
    refine end_tmp0 rfl ⟨rfl, ?_⟩
    rw [← h4, sift_ge (by omega)]
theorem sift_specZ (w0 : World) (F : FuncId) (hcF : CmpF F) (bb N cap : Nat) (D : Array (Int × Int)) (zl zh zf : Int) (lo hi first : Nat) (hN : N ≤ 1152921504606846975) (hf : first + hi ≤ N) (hlo : lo ≤ hi) (hD : D.size = N) (e1 : zl = lo) (e2 : zh = hi) (e3 : zf = first) :
    FnE PP w0 [] 132 [.slice (some ⟨bb, 0, none⟩) N cap, .int .i64 zl, .int .i64 zh, .int .i64 zf, .func (.func F) #[] #[]] [Dat2 134 bb N cap D] (.tuple #[]) [Dat2 134 bb N cap (siftDown ltP hi first lo D)] := by
  subst e1; subst e2; subst e3; exact sift_spec w0 F hcF bb N cap D lo hi first hN hf hlo hD
end Go.Proofs.YtloekplbhknepaaGreat.SF

namespace Go.Proofs.YtloekplbhknepaaGreat.SF
open Go.Vc
open Go.Sort (swp siftDown heapBuild heapPop heapSort)
theorem size_sift (hi first : Nat) : ∀ (m root : Nat) (d : Array (Int × Int)), hi - root ≤ m → (siftDown ltP hi first root d).size = d.size := by
  intro m
  induction m with
  | zero => intro root d h; rw [sift_ge (by omega)]
  | succ m ih =>
    intro root d h
    by_cases h1 : 2 * root + 1 < hi
    · have h2 := gch_lt (first := first) (d := d) h1
      cases hl : ltP d[first + root]! d[first + gch hi first root d]! with
      | false => rw [sift_stop h1 hl]
      | true => rw [sift_go h1 hl, ih _ _ (by omega), Go.Sort.size_swp]
    · rw [sift_ge (by omega)]
theorem heap_spec (w0 : World) (F : FuncId) (hcF : CmpF F) (bb N cap : Nat) (D : Array (Int × Int)) (a b : Nat) (hN : N ≤ 1152921504606846975) (hab : a < b) (hb : b ≤ N) (hD : D.size = N) :
    FnE PP w0 [] 111 [.slice (some ⟨bb, 0, none⟩) N cap, .int .i64 a, .int .i64 b, .func (.func F) #[] #[]] [Dat2 134 bb N cap D] (.tuple #[]) [Dat2 134 bb N cap (heapSort ltP D a b)] := by
  refine fn_of_run en111 fn111 rfl rfl rfl ?_
  repeat' (first | refine zck ?_ | refine zcp (by kernel_rfl) ?_ | refine zcl ?_ | (refine zap rfl ?_; first | refine zan rfl ?_ | refine zan rfl ?_ | refine zav rfl rfl (by omega) ?_ | refine zax rfl rfl (by omega) ?_) | refine zch ?_)
  refine run_loop (S := Nat × Array (Int × Int)) (fun s => [(0, .slice (some ⟨bb, 0, none⟩) N cap), (3, .func (.func F) #[] #[]), (8, .int .i64 a), (9, .int .i64 0), (10, .int .i64 (b - a)), (11, .int .i64 ((s.1 : Int) - 1))])
    (fun s Γ => Γ = [Dat2 134 bb N cap s.2] ∧ s.1 ≤ b - a ∧ s.2.size = N ∧ heapBuild ltP (b - a) a s.1 s.2 = heapBuild ltP (b - a) a ((b - a - 1) / 2 + 1) D)
    (fun s => s.1) ((b - a - 1) / 2 + 1, D) ⟨rfl, rfl, rfl, rfl, rfl, int_eq (by dsimp only; omega), trivial⟩ ⟨rfl, by dsimp only; omega, hD, rfl⟩ ?_
  rintro ⟨i, d⟩ Γ junk ⟨rfl, h1, h3, h4⟩
  dsimp only at h1 h3 h4 ⊢
  by_cases hi : 0 < i
  · obtain ⟨i, rfl⟩ : ∃ m, i = m + 1 := ⟨i - 1, by omega⟩
    repeat' (first | refine zck ?_ | refine zcp (by kernel_rfl) ?_ | refine zcm ?_ | refine zcl ?_ | refine zcn ?_ | (refine zap rfl ?_; first | refine zan rfl ?_ | refine zan rfl ?_ | refine zah [0] (sift_specZ w0 F hcF bb N cap _ _ _ _ i (b - a) a hN (by omega) (by omega) h3 (by omega) (by omega) rfl) rfl rfl rfl sub_nil rfl ?_ | refine zbm rfl rfl (by omega) ?_ | refine zav rfl rfl (by omega) ?_) | refine zch ?_ | refine zci rfl ?_)
    refine cut_end ⟨rfl, (i, siftDown ltP (b - a) a i d), ⟨rfl, rfl, rfl, rfl, rfl, int_eq (by dsimp only; omega), trivial⟩, ⟨rfl, by dsimp only; omega, ?_, ?_⟩, by dsimp only; omega⟩
    · rw [size_sift _ _ _ _ _ (Nat.le_refl _)]; exact h3
    · rw [← h4]; rfl
  · repeat' (first | refine zck ?_ | refine zcp (by kernel_rfl) ?_ | (refine zap rfl ?_; first | refine zan rfl ?_ | refine zbn rfl rfl (by omega) ?_) | refine zch ?_ | refine zcj rfl ?_)
    refine cut_exit rfl rfl ?_
    have hi0 : i = 0 := by omega
    subst hi0
    repeat' (first | refine zck ?_ | refine zcp (by kernel_rfl) ?_ | refine zcl ?_ | (refine zap rfl ?_; first | refine zan rfl ?_ | refine zan rfl ?_ | refine zav rfl rfl (by omega) ?_) | refine zch ?_)
    refine run_loop (S := Nat × Array (Int × Int)) (fun s => [(0, .slice (some ⟨bb, 0, none⟩) N cap), (3, .func (.func F) #[] #[]), (8, .int .i64 a), (9, .int .i64 0), (10, .int .i64 (b - a)), (12, .int .i64 ((s.1 : Int) - 1))])
      (fun s Γ => Γ = [Dat2 134 bb N cap s.2] ∧ s.1 ≤ b - a ∧ s.2.size = N ∧ heapPop ltP a s.1 s.2 = heapSort ltP D a b)
      (fun s => s.1) (b - a, d) ⟨rfl, rfl, rfl, rfl, rfl, int_eq (by dsimp only; omega), trivial⟩ ⟨rfl, by dsimp only; omega, h3, by unfold heapSort; rw [← h4]; rfl⟩ ?_
    rintro ⟨i, d⟩ Γ junk ⟨rfl, g1, g3, g4⟩
    dsimp only at g1 g3 g4 ⊢
    by_cases hi : 0 < i
    · obtain ⟨i, rfl⟩ : ∃ m, i = m + 1 := ⟨i - 1, by omega⟩
      have e1 : ((a : Nat) : Int).toNat = a := by omega
      have e2 : ((a : Int) + (((i + 1 : Nat) : Int) - 1)).toNat = a + i := by omega
      have hs : (swp d (a : Int).toNat ((a : Int) + (((i + 1 : Nat) : Int) - 1)).toNat).size = N := by rw [Go.Sort.size_swp]; exact g3
      repeat' (first | refine zck ?_ | refine zcp (by kernel_rfl) ?_ | refine run_drawR PP_mixed (by kernel_rfl) (by kernel_rfl) ?_ | refine zcm ?_ | refine zcl ?_ | refine zcn ?_ | (refine zap rfl ?_; first | refine reg_load_d2 0 rfl rfl (by omega) ?_ | refine reg_store_d2 0 rfl rfl rfl (by omega) rfl ?_ | refine zan rfl ?_ | refine zan rfl ?_ | refine zah [0] (sift_specZ w0 F hcF bb N cap _ _ _ _ 0 i a hN (by omega) (by omega) hs (by omega) (by omega) rfl) rfl rfl rfl sub_nil rfl ?_ | refine zbm rfl rfl (by omega) ?_ | refine zau rfl rfl (by omega) ?_ | refine zav rfl rfl (by omega) ?_ | refine zas rfl rfl (by omega) ?_) | refine zch ?_ | refine zci rfl ?_)
      refine cut_end ⟨rfl, (i, siftDown ltP i a 0 (swp d a (a + i))), ⟨rfl, rfl, rfl, rfl, rfl, int_eq (by dsimp only; omega), trivial⟩, ⟨?_, by dsimp only; omega, ?_, ?_⟩, by dsimp only; omega⟩
      · rw [e1, e2]; rfl
      · rw [size_sift _ _ _ _ _ (Nat.le_refl _), Go.Sort.size_swp]; exact g3
      · rw [← g4]; rfl
    · repeat' (first | refine zck ?_ | refine zcp (by kernel_rfl) ?_ | (refine zap rfl ?_; first | refine zan rfl ?_ | refine zbn rfl rfl (by omega) ?_) | refine zch ?_ | refine zcj rfl ?_)
      refine cut_exit rfl rfl ?_
      have hi0 : i = 0 := by omega
      subst hi0
      repeat' (first | refine zck ?_ | (refine zap rfl ?_; first | refine zan rfl ?_) | refine zch ?_)
      refine end_tmp0 rfl ⟨rfl, (show [_] = [_] from ?_)⟩
      rw [← g4]; rfl
end Go.Proofs.YtloekplbhknepaaGreat.SF

namespace Go.Proofs.YtloekplbhknepaaGreat.SF
open Go.Vc
open Go.Sort (swp scanUp scanDown partLoop partition partEqLoop partitionEqual)
theorem up_go {p : Int × Int → Bool} {d : Array (Int × Int)} {j i : Nat} (h : i ≤ j) (hp : p d[i]! = true) : scanUp p d j i = scanUp p d j (i + 1) := by
  rw [scanUp, if_pos (by simp only [hp, Bool.and_true, decide_eq_true_eq]; exact h)]
theorem up_stop {p : Int × Int → Bool} {d : Array (Int × Int)} {j i : Nat} (h : i ≤ j → p d[i]! = false) : scanUp p d j i = i := by
  rw [scanUp, if_neg]
  simp only [Bool.and_eq_true, decide_eq_true_eq, not_and, Bool.not_eq_true]; exact h
theorem down_go {p : Int × Int → Bool} {d : Array (Int × Int)} {i j : Nat} (h : i ≤ j + 1) (hp : p d[j + 1]! = true) : scanDown p d i (j + 1) = scanDown p d i j := by
  rw [scanDown, if_pos (by simp only [hp, Bool.and_true, decide_eq_true_eq]; exact h)]
theorem down_stop {p : Int × Int → Bool} {d : Array (Int × Int)} {i j : Nat} (h : 0 < j → i ≤ j → p d[j]! = false) : scanDown p d i j = j := by
  cases j with
  | zero => rfl
  | succ j =>
    rw [scanDown, if_neg]
    simp only [Bool.and_eq_true, decide_eq_true_eq, not_and, Bool.not_eq_true]; exact h (Nat.succ_pos _)
theorem part_gt {D d : Array (Int × Int)} {a b pivot i j : Nat} (hd : d = swp D a pivot) (hi : i = scanUp (fun x => ltP x d[a]!) d (b - 1) (a + 1)) (hj : j = scanDown (fun x => !ltP x d[a]!) d i (b - 1)) (h : i > j) : partition ltP D a b pivot = (j, true, swp d j a) := by
  unfold partition
  simp only [← hd, ← hi, ← hj]
  rw [if_pos h]
theorem part_le {D d : Array (Int × Int)} {a b pivot i j : Nat} (hd : d = swp D a pivot) (hi : i = scanUp (fun x => ltP x d[a]!) d (b - 1) (a + 1)) (hj : j = scanDown (fun x => !ltP x d[a]!) d i (b - 1)) (h : ¬ i > j) :
    partition ltP D a b pivot = ((partLoop ltP a (i + 1) (j - 1) (swp d i j)).1, false, swp (partLoop ltP a (i + 1) (j - 1) (swp d i j)).2 (partLoop ltP a (i + 1) (j - 1) (swp d i j)).1 a) := by
  unfold partition
  simp only [← hd, ← hi, ← hj]
  rw [if_neg h]
set_option maxHeartbeats 4000000
theorem part_spec (w0 : World) (F : FuncId) (hcF : CmpF F) (bb N cap : Nat) (D : Array (Int × Int)) (a b pivot : Nat) (hN : N ≤ 1152921504606846975) (hap : a ≤ pivot) (hpb : pivot < b) (hb : b ≤ N) (hD : D.size = N) :
    FnE PP w0 [] 117 [.slice (some ⟨bb, 0, none⟩) N cap, .int .i64 a, .int .i64 b, .int .i64 pivot, .func (.func F) #[] #[]] [Dat2 134 bb N cap D]
      (.tuple #[.int .i64 ((partition ltP D a b pivot).1 : Nat), .bool (partition ltP D a b pivot).2.1]) [Dat2 134 bb N cap (partition ltP D a b pivot).2.2] := by
  refine fn_of_run en117 fn117 rfl rfl rfl ?_
  repeat (first | refine zck ?_ | refine zcl ?_ | refine zcm ?_ | refine zcn ?_)
  first | refine zcp (by kernel_rfl) ?_ | refine run_drawR PP_mixed (by kernel_rfl) (by kernel_rfl) ?_
  repeat' (refine zap rfl ?_; first | refine zan rfl ?_)
  all_goals refine zch ?_
  all_goals repeat (refine zck ?_)
  repeat (first | refine zck ?_ | refine zcl ?_ | refine zcm ?_ | refine zcn ?_)
  first | refine zcp (by kernel_rfl) ?_ | refine run_drawR PP_mixed (by kernel_rfl) (by kernel_rfl) ?_
  repeat' (refine zap rfl ?_; first | refine reg_load_d2 0 rfl rfl (by omega) ?_ | refine reg_store_d2 0 rfl rfl rfl (by omega) rfl ?_ | refine zan rfl ?_ | refine zas rfl rfl (by omega) ?_)
  all_goals refine zch ?_
  all_goals repeat (refine zck ?_)
  repeat (first | refine zck ?_ | refine zcl ?_ | refine zcm ?_ | refine zcn ?_)
  first | refine zcp (by kernel_rfl) ?_ | refine run_drawR PP_mixed (by kernel_rfl) (by kernel_rfl) ?_
  repeat' (refine zap rfl ?_; first | refine zan rfl ?_ | refine zan rfl ?_ | refine zau rfl rfl (by omega) ?_ | refine zav rfl rfl (by omega) ?_)
  all_goals refine zch ?_
  all_goals repeat (refine zck ?_)
  obtain ⟨d, hd⟩ : ∃ d, d = swp D a pivot := ⟨_, rfl⟩
  have hds : d.size = N := by rw [hd, Go.Sort.size_swp]; exact hD
  obtain ⟨i, hi⟩ : ∃ i, i = scanUp (fun x => ltP x d[a]!) d (b - 1) (a + 1) := ⟨_, rfl⟩
  obtain ⟨j, hj⟩ : ∃ j, j = scanDown (fun x => !ltP x d[a]!) d i (b - 1) := ⟨_, rfl⟩
  have hi1 : a + 1 ≤ i := by rw [hi]; exact Go.Sort.scanUp_ge _ _ _ _
  have hi2 : i ≤ b - 1 + 1 := by rw [hi]; exact (Go.Sort.scanUp_spec _ d (b - 1) _ (a + 1) rfl).2.1 (by omega)
  have hj1 : j ≤ b - 1 := by rw [hj]; exact Go.Sort.scanDown_le _ _ _ _
  have hj2 : i ≤ j + 1 := by rw [hj]; exact (Go.Sort.scanDown_spec _ d i (b - 1)).2.1 hi2
  have hij : ¬ j < i → i < j := fun h => by
    rcases Nat.lt_or_ge i j with h1 | h1
    · exact h1
    · have e : j = i := by omega
      have p1 := (Go.Sort.scanUp_spec (fun x => ltP x d[a]!) d (b - 1) _ (a + 1) rfl).2.2.2
      have p2 := (Go.Sort.scanDown_spec (fun x => !ltP x d[a]!) d i (b - 1)).2.2.2
      rw [← hi] at p1; rw [← hj] at p2
      have p3 := p1 (by omega); have p4 := p2 (by omega) (by omega)
      rw [e] at p4; (try dsimp only at p3 p4); simp [p3] at p4
  refine run_bind_eq (l' := [(0, .slice (some ⟨bb, 0, none⟩) N cap), (4, .func (.func F) #[] #[]), (1, .int .i64 a), (12, .int .i64 ((i : Nat) : Int)), (13, .int .i64 ((b - 1 : Nat) : Int))]) (Γ' := [Dat2 134 bb N cap d]) ?_ (fun junk => ?_)
  · repeat' (first | refine zcl ?_ | (refine zap rfl ?_; first | refine zaj rfl ?_ | refine zak rfl ?_ | refine zal rfl ?_ | refine zam rfl rfl (fun _ => ?_) (fun _ => ?_)) | refine zch ?_)
    refine run_loop (S := Nat) (fun u => [(0, .slice (some ⟨bb, 0, none⟩) N cap), (4, .func (.func F) #[] #[]), (1, .int .i64 a), (12, .int .i64 ((u : Nat) : Int)), (13, .int .i64 ((b - 1 : Nat) : Int))]) (fun u Γ => Γ = [Dat2 134 bb N cap d] ∧ a + 1 ≤ u ∧ u ≤ b - 1 + 1 ∧ scanUp (fun x => ltP x d[a]!) d (b - 1) u = i) (fun u => b - 1 + 1 - u) (a + 1) ⟨rfl, rfl, rfl, int_eq (by first | rfl | omega | (dsimp only; omega)), int_eq (by first | rfl | omega | (dsimp only; omega)), trivial⟩ ⟨?_, by omega, by omega, hi.symm⟩ ?_
    · rw [hd]; rfl
    rintro u Γ junk ⟨rfl, h1, h2, h4⟩
    try dsimp only at h1 h2 h4 ⊢
    by_cases hc : u ≤ b - 1
    · repeat' (first | refine zck ?_ | refine run_drawR PP_mixed (by kernel_rfl) (by kernel_rfl) ?_ | (refine zap rfl ?_; first | refine reg_load_d2 0 rfl rfl (by omega) ?_ | refine zaj rfl ?_ | refine zan rfl ?_ | refine zah [] (hcF w0 _ _) rfl rfl rfl sub_nil rfl ?_ | refine zbi rfl rfl (by omega) ?_ | refine zbq rfl rfl ?_ | refine zbu rfl ?_ | refine zas rfl rfl (by omega) ?_) | refine zch ?_)
      refine run_cond rfl (fun hE => ?_) (fun hE => ?_)
      · repeat' (first | refine zcp (by kernel_rfl) ?_ | refine zcm ?_ | refine zcl ?_ | refine zcn ?_ | (refine zap rfl ?_; first | refine zan rfl ?_ | refine zan rfl ?_ | refine zau rfl rfl (by omega) ?_) | refine zch ?_)
        refine cut_end ⟨rfl, u + 1, ⟨rfl, rfl, rfl, int_eq (by omega), rfl, trivial⟩, ⟨rfl, by omega, by omega, ?_⟩, by omega⟩
        rw [← h4, up_go hc (by simpa [ltP] using hE)]
      · refine cut_exit rfl rfl ?_
        refine cut_end ⟨rfl, ⟨rfl, rfl, rfl, int_eq (congrArg Int.ofNat (by rw [← h4, up_stop (fun _ => by simpa [ltP] using hE)])), rfl, trivial⟩, rfl⟩
    · repeat' (first | refine zck ?_ | refine run_drawR PP_mixed (by kernel_rfl) (by kernel_rfl) ?_ | (refine zap rfl ?_; first | refine zak rfl ?_ | refine zan rfl ?_ | refine zbj rfl rfl (by omega) ?_ | refine zbv rfl ?_) | refine zch ?_ | refine zcj rfl ?_)
      refine cut_exit rfl rfl ?_
      refine cut_end ⟨rfl, ⟨rfl, rfl, rfl, int_eq (congrArg Int.ofNat (by rw [← h4, up_stop (fun h => absurd h hc)])), rfl, trivial⟩, rfl⟩
  repeat refine zck ?_
  refine run_bind_eq (l' := [(0, .slice (some ⟨bb, 0, none⟩) N cap), (4, .func (.func F) #[] #[]), (1, .int .i64 a), (12, .int .i64 ((i : Nat) : Int)), (13, .int .i64 ((j : Nat) : Int))]) (Γ' := [Dat2 134 bb N cap d]) ?_ (fun junk => ?_)
  · repeat' (first | refine zcl ?_ | (refine zap rfl ?_; first | refine zaj rfl ?_ | refine zak rfl ?_ | refine zal rfl ?_ | refine zam rfl rfl (fun _ => ?_) (fun _ => ?_)) | refine zch ?_)
    refine run_loop (S := Nat) (fun u => [(0, .slice (some ⟨bb, 0, none⟩) N cap), (4, .func (.func F) #[] #[]), (1, .int .i64 a), (12, .int .i64 ((i : Nat) : Int)), (13, .int .i64 ((u : Nat) : Int))]) (fun u Γ => Γ = [Dat2 134 bb N cap d] ∧ u ≤ b - 1 ∧ i ≤ u + 1 ∧ scanDown (fun x => !ltP x d[a]!) d (i) u = j) (fun u => u) (b - 1) ⟨rfl, rfl, rfl, int_eq (by first | rfl | omega | (dsimp only; omega)), int_eq (by first | rfl | omega | (dsimp only; omega)), trivial⟩ ⟨?_, by omega, by omega, hj.symm⟩ ?_
    · rfl
    rintro u Γ junk ⟨rfl, h1, h2, h4⟩
    try dsimp only at h1 h2 h4 ⊢
    by_cases hc : i ≤ u
    · obtain ⟨u, rfl⟩ : ∃ m, u = m + 1 := ⟨u - 1, by omega⟩
      repeat' (first | refine zck ?_ | refine run_drawR PP_mixed (by kernel_rfl) (by kernel_rfl) ?_ | (refine zap rfl ?_; first | refine reg_load_d2 0 rfl rfl (by omega) ?_ | refine zaj rfl ?_ | refine zan rfl ?_ | refine zah [] (hcF w0 _ _) rfl rfl rfl sub_nil rfl ?_ | refine zbi rfl rfl (by omega) ?_ | refine zbq rfl rfl ?_ | refine zby rfl ?_ | refine zbu rfl ?_ | refine zas rfl rfl (by omega) ?_) | refine zch ?_)
      refine run_cond rfl (fun hE => ?_) (fun hE => ?_)
      · repeat' (first | refine zcp (by kernel_rfl) ?_ | refine zcm ?_ | refine zcl ?_ | refine zcn ?_ | (refine zap rfl ?_; first | refine zan rfl ?_ | refine zan rfl ?_ | refine zav rfl rfl (by omega) ?_) | refine zch ?_)
        refine cut_end ⟨rfl, u, ⟨rfl, rfl, rfl, rfl, int_eq (by omega), trivial⟩, ⟨rfl, by omega, by omega, ?_⟩, by omega⟩
        rw [← h4, down_go hc (by simpa [ltP] using hE)]
      · refine cut_exit rfl rfl ?_
        refine cut_end ⟨rfl, ⟨rfl, rfl, rfl, rfl, int_eq (congrArg Int.ofNat (by rw [← h4, down_stop (fun _ _ => by simpa [ltP] using hE)])), trivial⟩, rfl⟩
    · repeat' (first | refine zck ?_ | refine run_drawR PP_mixed (by kernel_rfl) (by kernel_rfl) ?_ | (refine zap rfl ?_; first | refine zak rfl ?_ | refine zan rfl ?_ | refine zbj rfl rfl (by omega) ?_ | refine zbv rfl ?_) | refine zch ?_ | refine zcj rfl ?_)
      refine cut_exit rfl rfl ?_
      refine cut_end ⟨rfl, ⟨rfl, rfl, rfl, rfl, int_eq (congrArg Int.ofNat (by rw [← h4, down_stop (fun _ h => absurd h hc)])), trivial⟩, rfl⟩
  by_cases hgt : j < i
  · repeat' (first | refine zck ?_ | refine zcp (by kernel_rfl) ?_ | refine run_drawR PP_mixed (by kernel_rfl) (by kernel_rfl) ?_ | (refine zap rfl ?_; first | refine reg_load_d2 0 rfl rfl (by omega) ?_ | refine reg_store_d2 0 rfl rfl rfl (by omega) rfl ?_ | refine zan rfl ?_ | refine zan rfl ?_ | refine zbk rfl rfl (by omega) ?_ | refine zas rfl rfl (by omega) ?_) | refine zch ?_ | refine zci rfl ?_)
    rw [part_gt hd hi hj hgt]
    exact ret_tmp2 rfl ⟨rfl, rfl⟩
  · rw [part_le hd hi hj hgt]
    replace hij := hij hgt
    obtain ⟨e, he⟩ : ∃ e, e = swp d i j := ⟨_, rfl⟩
    have hes : e.size = N := by rw [he, Go.Sort.size_swp]; exact hds
    repeat' (first | refine zck ?_ | refine zcp (by kernel_rfl) ?_ | refine run_drawR PP_mixed (by kernel_rfl) (by kernel_rfl) ?_ | refine zcm ?_ | refine zcl ?_ | (refine zap rfl ?_; first | refine reg_load_d2 0 rfl rfl (by omega) ?_ | refine reg_store_d2 0 rfl rfl rfl (by omega) rfl ?_ | refine zan rfl ?_ | refine zan rfl ?_ | refine zbl rfl rfl (by omega) ?_ | refine zau rfl rfl (by omega) ?_ | refine zav rfl rfl (by omega) ?_ | refine zas rfl rfl (by omega) ?_) | refine zch ?_ | refine zcj rfl ?_)
    refine run_loop (S := Nat × Nat × Array (Int × Int)) (fun s => [(0, .slice (some ⟨bb, 0, none⟩) N cap), (4, .func (.func F) #[] #[]), (1, .int .i64 a), (12, .int .i64 s.1), (13, .int .i64 s.2.1)])
      (fun s Γ => Γ = [Dat2 134 bb N cap s.2.2] ∧ a < s.1 ∧ s.1 ≤ s.2.1 + 1 ∧ s.2.1 < b ∧ s.2.2.size = N ∧ partLoop ltP a s.1 s.2.1 s.2.2 = partLoop ltP a (i + 1) (j - 1) e)
      (fun s => s.2.1 + 1 - s.1) (i + 1, j - 1, e) ⟨rfl, rfl, rfl, int_eq (by first | rfl | omega | (dsimp only; omega)), int_eq (by first | rfl | omega | (dsimp only; omega)), trivial⟩ ⟨by rw [he]; rfl, by dsimp only; omega, by dsimp only; omega, by dsimp only; omega, hes, rfl⟩ ?_
    rw [← he]
    generalize partLoop ltP a (i + 1) (j - 1) e = RR
    clear hi hj he hes hd hds hi1 hi2 hj1 hj2 hij hgt
    clear e i j d
    rintro ⟨i, j, d⟩ Γ junk ⟨rfl, g1, g2, g3, g4, g5⟩
    dsimp only at g1 g2 g3 g4 g5 ⊢
    obtain ⟨i2, hi⟩ : ∃ i2, i2 = scanUp (fun x => ltP x d[a]!) d j i := ⟨_, rfl⟩
    obtain ⟨j2, hj⟩ : ∃ j2, j2 = scanDown (fun x => !ltP x d[a]!) d i2 j := ⟨_, rfl⟩
    have hi1 : i ≤ i2 := by rw [hi]; exact Go.Sort.scanUp_ge _ _ _ _
    have hi2 : i2 ≤ j + 1 := by rw [hi]; exact (Go.Sort.scanUp_spec _ d j _ i rfl).2.1 (by omega)
    have hj1 : j2 ≤ j := by rw [hj]; exact Go.Sort.scanDown_le _ _ _ _
    have hj2 : i2 ≤ j2 + 1 := by rw [hj]; exact (Go.Sort.scanDown_spec _ d i2 j).2.1 hi2
    have hij : ¬ j2 < i2 → i2 < j2 := fun h => by
      rcases Nat.lt_or_ge i2 j2 with h1 | h1
      · exact h1
      · have e : j2 = i2 := by omega
        have p1 := (Go.Sort.scanUp_spec (fun x => ltP x d[a]!) d (j) _ (i) rfl).2.2.2
        have p2 := (Go.Sort.scanDown_spec (fun x => !ltP x d[a]!) d i2 (j)).2.2.2
        rw [← hi] at p1; rw [← hj] at p2
        have p3 := p1 (by omega); have p4 := p2 (by omega) (by omega)
        rw [e] at p4; (try dsimp only at p3 p4); simp [p3] at p4
    have hpe := Go.Sort.partLoop_eq ltP a i j d
    rw [← hi, ← hj] at hpe
    refine zcl ?_
    repeat refine zck ?_
    refine run_bind_eq (l' := [(0, .slice (some ⟨bb, 0, none⟩) N cap), (4, .func (.func F) #[] #[]), (1, .int .i64 a), (12, .int .i64 ((i2 : Nat) : Int)), (13, .int .i64 ((j : Nat) : Int))]) (Γ' := [Dat2 134 bb N cap d]) ?_ (fun junk => ?_)
    · repeat' (first | refine zcl ?_ | (refine zap rfl ?_; first | refine zaj rfl ?_ | refine zak rfl ?_ | refine zal rfl ?_ | refine zam rfl rfl (fun _ => ?_) (fun _ => ?_)) | refine zch ?_)
      refine run_loop (S := Nat) (fun u => [(0, .slice (some ⟨bb, 0, none⟩) N cap), (4, .func (.func F) #[] #[]), (1, .int .i64 a), (12, .int .i64 ((u : Nat) : Int)), (13, .int .i64 ((j : Nat) : Int))]) (fun u Γ => Γ = [Dat2 134 bb N cap d] ∧ i ≤ u ∧ u ≤ j + 1 ∧ scanUp (fun x => ltP x d[a]!) d (j) u = i2) (fun u => j + 1 - u) (i) ⟨rfl, rfl, rfl, int_eq (by first | rfl | omega | (dsimp only; omega)), int_eq (by first | rfl | omega | (dsimp only; omega)), trivial⟩ ⟨?_, by omega, by omega, hi.symm⟩ ?_
      · rfl
      rintro u Γ junk ⟨rfl, h1, h2, h4⟩
      try dsimp only at h1 h2 h4 ⊢
      by_cases hc : u ≤ j
      · repeat' (first | refine zck ?_ | refine run_drawR PP_mixed (by kernel_rfl) (by kernel_rfl) ?_ | (refine zap rfl ?_; first | refine reg_load_d2 0 rfl rfl (by omega) ?_ | refine zaj rfl ?_ | refine zan rfl ?_ | refine zah [] (hcF w0 _ _) rfl rfl rfl sub_nil rfl ?_ | refine zbi rfl rfl (by omega) ?_ | refine zbq rfl rfl ?_ | refine zbu rfl ?_ | refine zas rfl rfl (by omega) ?_) | refine zch ?_)
        refine run_cond rfl (fun hE => ?_) (fun hE => ?_)
        · repeat' (first | refine zcp (by kernel_rfl) ?_ | refine zcm ?_ | refine zcl ?_ | refine zcn ?_ | (refine zap rfl ?_; first | refine zan rfl ?_ | refine zan rfl ?_ | refine zau rfl rfl (by omega) ?_) | refine zch ?_)
          refine cut_end ⟨rfl, u + 1, ⟨rfl, rfl, rfl, int_eq (by omega), rfl, trivial⟩, ⟨rfl, by omega, by omega, ?_⟩, by omega⟩
          rw [← h4, up_go hc (by simpa [ltP] using hE)]
        · refine cut_exit rfl rfl ?_
          refine cut_end ⟨rfl, ⟨rfl, rfl, rfl, int_eq (congrArg Int.ofNat (by rw [← h4, up_stop (fun _ => by simpa [ltP] using hE)])), rfl, trivial⟩, rfl⟩
      · repeat' (first | refine zck ?_ | refine run_drawR PP_mixed (by kernel_rfl) (by kernel_rfl) ?_ | (refine zap rfl ?_; first | refine zak rfl ?_ | refine zan rfl ?_ | refine zbj rfl rfl (by omega) ?_ | refine zbv rfl ?_) | refine zch ?_ | refine zcj rfl ?_)
        refine cut_exit rfl rfl ?_
        refine cut_end ⟨rfl, ⟨rfl, rfl, rfl, int_eq (congrArg Int.ofNat (by rw [← h4, up_stop (fun h => absurd h hc)])), rfl, trivial⟩, rfl⟩
    repeat refine zck ?_
    refine run_bind_eq (l' := [(0, .slice (some ⟨bb, 0, none⟩) N cap), (4, .func (.func F) #[] #[]), (1, .int .i64 a), (12, .int .i64 ((i2 : Nat) : Int)), (13, .int .i64 ((j2 : Nat) : Int))]) (Γ' := [Dat2 134 bb N cap d]) ?_ (fun junk => ?_)
    · repeat' (first | refine zcl ?_ | (refine zap rfl ?_; first | refine zaj rfl ?_ | refine zak rfl ?_ | refine zal rfl ?_ | refine zam rfl rfl (fun _ => ?_) (fun _ => ?_)) | refine zch ?_)
      refine run_loop (S := Nat) (fun u => [(0, .slice (some ⟨bb, 0, none⟩) N cap), (4, .func (.func F) #[] #[]), (1, .int .i64 a), (12, .int .i64 ((i2 : Nat) : Int)), (13, .int .i64 ((u : Nat) : Int))]) (fun u Γ => Γ = [Dat2 134 bb N cap d] ∧ u ≤ j ∧ i2 ≤ u + 1 ∧ scanDown (fun x => !ltP x d[a]!) d (i2) u = j2) (fun u => u) (j) ⟨rfl, rfl, rfl, int_eq (by first | rfl | omega | (dsimp only; omega)), int_eq (by first | rfl | omega | (dsimp only; omega)), trivial⟩ ⟨?_, by omega, by omega, hj.symm⟩ ?_
      · rfl
      rintro u Γ junk ⟨rfl, h1, h2, h4⟩
      try dsimp only at h1 h2 h4 ⊢
      by_cases hc : i2 ≤ u
      · obtain ⟨u, rfl⟩ : ∃ m, u = m + 1 := ⟨u - 1, by omega⟩
        repeat' (first | refine zck ?_ | refine run_drawR PP_mixed (by kernel_rfl) (by kernel_rfl) ?_ | (refine zap rfl ?_; first | refine reg_load_d2 0 rfl rfl (by omega) ?_ | refine zaj rfl ?_ | refine zan rfl ?_ | refine zah [] (hcF w0 _ _) rfl rfl rfl sub_nil rfl ?_ | refine zbi rfl rfl (by omega) ?_ | refine zbq rfl rfl ?_ | refine zby rfl ?_ | refine zbu rfl ?_ | refine zas rfl rfl (by omega) ?_) | refine zch ?_)
        refine run_cond rfl (fun hE => ?_) (fun hE => ?_)
        · repeat' (first | refine zcp (by kernel_rfl) ?_ | refine zcm ?_ | refine zcl ?_ | refine zcn ?_ | (refine zap rfl ?_; first | refine zan rfl ?_ | refine zan rfl ?_ | refine zav rfl rfl (by omega) ?_) | refine zch ?_)
          refine cut_end ⟨rfl, u, ⟨rfl, rfl, rfl, rfl, int_eq (by omega), trivial⟩, ⟨rfl, by omega, by omega, ?_⟩, by omega⟩
          rw [← h4, down_go hc (by simpa [ltP] using hE)]
        · refine cut_exit rfl rfl ?_
          refine cut_end ⟨rfl, ⟨rfl, rfl, rfl, rfl, int_eq (congrArg Int.ofNat (by rw [← h4, down_stop (fun _ _ => by simpa [ltP] using hE)])), trivial⟩, rfl⟩
      · repeat' (first | refine zck ?_ | refine run_drawR PP_mixed (by kernel_rfl) (by kernel_rfl) ?_ | (refine zap rfl ?_; first | refine zak rfl ?_ | refine zan rfl ?_ | refine zbj rfl rfl (by omega) ?_ | refine zbv rfl ?_) | refine zch ?_ | refine zcj rfl ?_)
        refine cut_exit rfl rfl ?_
        refine cut_end ⟨rfl, ⟨rfl, rfl, rfl, rfl, int_eq (congrArg Int.ofNat (by rw [← h4, down_stop (fun _ h => absurd h hc)])), trivial⟩, rfl⟩
    by_cases hgt : j2 < i2
    · repeat' (first | refine zck ?_ | refine zcp (by kernel_rfl) ?_ | (refine zap rfl ?_; first | refine zan rfl ?_ | refine zbk rfl rfl (by omega) ?_) | refine zch ?_ | refine zci rfl ?_)
      refine cut_exit rfl rfl ?_
      repeat' (first | refine zck ?_ | refine zcp (by kernel_rfl) ?_ | refine run_drawR PP_mixed (by kernel_rfl) (by kernel_rfl) ?_ | (refine zap rfl ?_; first | refine reg_load_d2 0 rfl rfl (by omega) ?_ | refine reg_store_d2 0 rfl rfl rfl (by omega) rfl ?_ | refine zan rfl ?_ | refine zan rfl ?_ | refine zas rfl rfl (by omega) ?_) | refine zch ?_)
      rw [if_pos hgt] at hpe
      rw [← g5, hpe]
      exact ret_tmp2 rfl ⟨rfl, rfl⟩
    · replace hij := hij hgt
      repeat' (first | refine zck ?_ | refine zcp (by kernel_rfl) ?_ | refine run_drawR PP_mixed (by kernel_rfl) (by kernel_rfl) ?_ | refine zcm ?_ | refine zcn ?_ | (refine zap rfl ?_; first | refine reg_load_d2 0 rfl rfl (by omega) ?_ | refine reg_store_d2 0 rfl rfl rfl (by omega) rfl ?_ | refine zan rfl ?_ | refine zan rfl ?_ | refine zbl rfl rfl (by omega) ?_ | refine zau rfl rfl (by omega) ?_ | refine zav rfl rfl (by omega) ?_ | refine zas rfl rfl (by omega) ?_) | refine zch ?_ | refine zcj rfl ?_)
      refine cut_end ⟨rfl, (i2 + 1, j2 - 1, swp d i2 j2), ⟨rfl, rfl, rfl, int_eq (by first | rfl | omega | (dsimp only; omega)), int_eq (by first | rfl | omega | (dsimp only; omega)), trivial⟩, ⟨rfl, by dsimp only; omega, by dsimp only; omega, by dsimp only; omega, ?_, ?_⟩, by dsimp only; omega⟩
      · rw [Go.Sort.size_swp]; exact g4
      · rw [if_neg hgt] at hpe
        rw [← g5, hpe]
end Go.Proofs.YtloekplbhknepaaGreat.SF

namespace Go.Proofs.YtloekplbhknepaaGreat.SF
open Go.Vc
open Go.Sort (swp scanUp scanDown partEqLoop partitionEqual)
set_option maxHeartbeats 4000000
theorem partEq_spec (w0 : World) (F : FuncId) (hcF : CmpF F) (bb N cap : Nat) (D : Array (Int × Int)) (a b pivot : Nat) (hN : N ≤ 1152921504606846975) (hap : a ≤ pivot) (hpb : pivot < b) (hb : b ≤ N) (hD : D.size = N) :
    FnE PP w0 [] 116 [.slice (some ⟨bb, 0, none⟩) N cap, .int .i64 a, .int .i64 b, .int .i64 pivot, .func (.func F) #[] #[]] [Dat2 134 bb N cap D]
      (.int .i64 ((partitionEqual ltP D a b pivot).1 : Nat)) [Dat2 134 bb N cap (partitionEqual ltP D a b pivot).2] := by
  refine fn_of_run en116 fn116 rfl rfl rfl ?_
  repeat' (first | refine zck ?_ | refine zcp (by kernel_rfl) ?_ | refine run_drawR PP_mixed (by kernel_rfl) (by kernel_rfl) ?_ | refine zcl ?_ | (refine zap rfl ?_; first | refine reg_load_d2 0 rfl rfl (by omega) ?_ | refine reg_store_d2 0 rfl rfl rfl (by omega) rfl ?_ | refine zan rfl ?_ | refine zan rfl ?_ | refine zau rfl rfl (by omega) ?_ | refine zav rfl rfl (by omega) ?_ | refine zas rfl rfl (by omega) ?_) | refine zch ?_)
  refine run_loop (S := Nat × Nat × Array (Int × Int)) (fun s => [(0, .slice (some ⟨bb, 0, none⟩) N cap), (4, .func (.func F) #[] #[]), (1, .int .i64 a), (11, .int .i64 s.1), (12, .int .i64 s.2.1)])
    (fun s Γ => Γ = [Dat2 134 bb N cap s.2.2] ∧ a < s.1 ∧ s.1 ≤ s.2.1 + 1 ∧ s.2.1 < b ∧ s.2.2.size = N ∧ partEqLoop ltP a s.1 s.2.1 s.2.2 = partitionEqual ltP D a b pivot)
    (fun s => s.2.1 + 1 - s.1) (a + 1, b - 1, swp D a pivot) ⟨rfl, rfl, rfl, int_eq (by first | rfl | omega | (dsimp only; omega)), int_eq (by first | rfl | omega | (dsimp only; omega)), trivial⟩ ⟨rfl, by dsimp only; omega, by dsimp only; omega, by dsimp only; omega, by rw [Go.Sort.size_swp]; exact hD, rfl⟩ ?_
  generalize partitionEqual ltP D a b pivot = RR
  rintro ⟨i, j, d⟩ Γ junk ⟨rfl, g1, g2, g3, g4, g5⟩
  dsimp only at g1 g2 g3 g4 g5 ⊢
  obtain ⟨i2, hi⟩ : ∃ i2, i2 = scanUp (fun x => !ltP d[a]! x) d j i := ⟨_, rfl⟩
  obtain ⟨j2, hj⟩ : ∃ j2, j2 = scanDown (fun x => ltP d[a]! x) d i2 j := ⟨_, rfl⟩
  have hi1 : i ≤ i2 := by rw [hi]; exact Go.Sort.scanUp_ge _ _ _ _
  have hi2 : i2 ≤ j + 1 := by rw [hi]; exact (Go.Sort.scanUp_spec _ d j _ i rfl).2.1 (by omega)
  have hj1 : j2 ≤ j := by rw [hj]; exact Go.Sort.scanDown_le _ _ _ _
  have hj2 : i2 ≤ j2 + 1 := by rw [hj]; exact (Go.Sort.scanDown_spec _ d i2 j).2.1 hi2
  have hij : ¬ j2 < i2 → i2 < j2 := fun h => by
    rcases Nat.lt_or_ge i2 j2 with h1 | h1
    · exact h1
    · have e : j2 = i2 := by omega
      have p1 := (Go.Sort.scanUp_spec (fun x => !ltP d[a]! x) d j _ i rfl).2.2.2
      have p2 := (Go.Sort.scanDown_spec (fun x => ltP d[a]! x) d i2 j).2.2.2
      rw [← hi] at p1; rw [← hj] at p2
      have p3 := p1 (by omega); have p4 := p2 (by omega) (by omega)
      rw [e] at p4; (try dsimp only at p3 p4); simp [p4] at p3
  have hpe := Go.Sort.partEqLoop_eq ltP a i j d
  rw [← hi, ← hj] at hpe
  refine zcl ?_
  repeat refine zck ?_
  refine run_bind_eq (l' := [(0, .slice (some ⟨bb, 0, none⟩) N cap), (4, .func (.func F) #[] #[]), (1, .int .i64 a), (11, .int .i64 ((i2 : Nat) : Int)), (12, .int .i64 ((j : Nat) : Int))]) (Γ' := [Dat2 134 bb N cap d]) ?_ (fun junk => ?_)
  · repeat' (first | refine zcl ?_ | (refine zap rfl ?_; first | refine zaj rfl ?_ | refine zak rfl ?_ | refine zal rfl ?_ | refine zam rfl rfl (fun _ => ?_) (fun _ => ?_)) | refine zch ?_)
    refine run_loop (S := Nat) (fun u => [(0, .slice (some ⟨bb, 0, none⟩) N cap), (4, .func (.func F) #[] #[]), (1, .int .i64 a), (11, .int .i64 ((u : Nat) : Int)), (12, .int .i64 ((j : Nat) : Int))]) (fun u Γ => Γ = [Dat2 134 bb N cap d] ∧ i ≤ u ∧ u ≤ j + 1 ∧ scanUp (fun x => !ltP d[a]! x) d (j) u = i2) (fun u => j + 1 - u) (i) ⟨rfl, rfl, rfl, int_eq (by first | rfl | omega | (dsimp only; omega)), int_eq (by first | rfl | omega | (dsimp only; omega)), trivial⟩ ⟨?_, by omega, by omega, hi.symm⟩ ?_
    · rfl
    rintro u Γ junk ⟨rfl, h1, h2, h4⟩
    try dsimp only at h1 h2 h4 ⊢
    by_cases hc : u ≤ j
    · repeat' (first | refine zck ?_ | refine run_drawR PP_mixed (by kernel_rfl) (by kernel_rfl) ?_ | (refine zap rfl ?_; first | refine reg_load_d2 0 rfl rfl (by omega) ?_ | refine zaj rfl ?_ | refine zan rfl ?_ | refine zah [] (hcF w0 _ _) rfl rfl rfl sub_nil rfl ?_ | refine zbi rfl rfl (by omega) ?_ | refine zbq rfl rfl ?_ | refine zby rfl ?_ | refine zbu rfl ?_ | refine zas rfl rfl (by omega) ?_) | refine zch ?_)
      refine run_cond rfl (fun hE => ?_) (fun hE => ?_)
      · repeat' (first | refine zcp (by kernel_rfl) ?_ | refine zcm ?_ | refine zcl ?_ | refine zcn ?_ | (refine zap rfl ?_; first | refine zan rfl ?_ | refine zan rfl ?_ | refine zau rfl rfl (by omega) ?_) | refine zch ?_)
        refine cut_end ⟨rfl, u + 1, ⟨rfl, rfl, rfl, int_eq (by omega), rfl, trivial⟩, ⟨rfl, by omega, by omega, ?_⟩, by omega⟩
        rw [← h4, up_go hc (by simpa [ltP] using hE)]
      · refine cut_exit rfl rfl ?_
        refine cut_end ⟨rfl, ⟨rfl, rfl, rfl, int_eq (congrArg Int.ofNat (by rw [← h4, up_stop (fun _ => by simpa [ltP] using hE)])), rfl, trivial⟩, rfl⟩
    · repeat' (first | refine zck ?_ | refine run_drawR PP_mixed (by kernel_rfl) (by kernel_rfl) ?_ | (refine zap rfl ?_; first | refine zak rfl ?_ | refine zan rfl ?_ | refine zbj rfl rfl (by omega) ?_ | refine zbv rfl ?_) | refine zch ?_ | refine zcj rfl ?_)
      refine cut_exit rfl rfl ?_
      refine cut_end ⟨rfl, ⟨rfl, rfl, rfl, int_eq (congrArg Int.ofNat (by rw [← h4, up_stop (fun h => absurd h hc)])), rfl, trivial⟩, rfl⟩
  repeat refine zck ?_
  refine run_bind_eq (l' := [(0, .slice (some ⟨bb, 0, none⟩) N cap), (4, .func (.func F) #[] #[]), (1, .int .i64 a), (11, .int .i64 ((i2 : Nat) : Int)), (12, .int .i64 ((j2 : Nat) : Int))]) (Γ' := [Dat2 134 bb N cap d]) ?_ (fun junk => ?_)
  · repeat' (first | refine zcl ?_ | (refine zap rfl ?_; first | refine zaj rfl ?_ | refine zak rfl ?_ | refine zal rfl ?_ | refine zam rfl rfl (fun _ => ?_) (fun _ => ?_)) | refine zch ?_)
    refine run_loop (S := Nat) (fun u => [(0, .slice (some ⟨bb, 0, none⟩) N cap), (4, .func (.func F) #[] #[]), (1, .int .i64 a), (11, .int .i64 ((i2 : Nat) : Int)), (12, .int .i64 ((u : Nat) : Int))]) (fun u Γ => Γ = [Dat2 134 bb N cap d] ∧ u ≤ j ∧ i2 ≤ u + 1 ∧ scanDown (fun x => ltP d[a]! x) d (i2) u = j2) (fun u => u) (j) ⟨rfl, rfl, rfl, int_eq (by first | rfl | omega | (dsimp only; omega)), int_eq (by first | rfl | omega | (dsimp only; omega)), trivial⟩ ⟨?_, by omega, by omega, hj.symm⟩ ?_
    · rfl
    rintro u Γ junk ⟨rfl, h1, h2, h4⟩
    try dsimp only at h1 h2 h4 ⊢
    by_cases hc : i2 ≤ u
    · obtain ⟨u, rfl⟩ : ∃ m, u = m + 1 := ⟨u - 1, by omega⟩
      repeat' (first | refine zck ?_ | refine run_drawR PP_mixed (by kernel_rfl) (by kernel_rfl) ?_ | (refine zap rfl ?_; first | refine reg_load_d2 0 rfl rfl (by omega) ?_ | refine zaj rfl ?_ | refine zan rfl ?_ | refine zah [] (hcF w0 _ _) rfl rfl rfl sub_nil rfl ?_ | refine zbi rfl rfl (by omega) ?_ | refine zbq rfl rfl ?_ | refine zbu rfl ?_ | refine zas rfl rfl (by omega) ?_) | refine zch ?_)
      refine run_cond rfl (fun hE => ?_) (fun hE => ?_)
      · repeat' (first | refine zcp (by kernel_rfl) ?_ | refine zcm ?_ | refine zcl ?_ | refine zcn ?_ | (refine zap rfl ?_; first | refine zan rfl ?_ | refine zan rfl ?_ | refine zav rfl rfl (by omega) ?_) | refine zch ?_)
        refine cut_end ⟨rfl, u, ⟨rfl, rfl, rfl, rfl, int_eq (by omega), trivial⟩, ⟨rfl, by omega, by omega, ?_⟩, by omega⟩
        rw [← h4, down_go hc (by simpa [ltP] using hE)]
      · refine cut_exit rfl rfl ?_
        refine cut_end ⟨rfl, ⟨rfl, rfl, rfl, rfl, int_eq (congrArg Int.ofNat (by rw [← h4, down_stop (fun _ _ => by simpa [ltP] using hE)])), trivial⟩, rfl⟩
    · repeat' (first | refine zck ?_ | refine run_drawR PP_mixed (by kernel_rfl) (by kernel_rfl) ?_ | (refine zap rfl ?_; first | refine zak rfl ?_ | refine zan rfl ?_ | refine zbj rfl rfl (by omega) ?_ | refine zbv rfl ?_) | refine zch ?_ | refine zcj rfl ?_)
      refine cut_exit rfl rfl ?_
      refine cut_end ⟨rfl, ⟨rfl, rfl, rfl, rfl, int_eq (congrArg Int.ofNat (by rw [← h4, down_stop (fun _ h => absurd h hc)])), trivial⟩, rfl⟩
  by_cases hgt : j2 < i2
  · repeat' (first | refine zck ?_ | refine zcp (by kernel_rfl) ?_ | (refine zap rfl ?_; first | refine zan rfl ?_ | refine zbk rfl rfl (by omega) ?_) | refine zch ?_ | refine zci rfl ?_)
    refine cut_exit rfl rfl ?_
    repeat' (first | refine zck ?_ | refine zcp (by kernel_rfl) ?_ | (refine zap rfl ?_; first | refine zan rfl ?_ | refine zan rfl ?_) | refine zch ?_)
    rw [if_pos hgt] at hpe
    rw [← g5, hpe]
    exact ret_tmp1 rfl ⟨rfl, rfl⟩
  · replace hij := hij hgt
    repeat' (first | refine zck ?_ | refine zcp (by kernel_rfl) ?_ | refine run_drawR PP_mixed (by kernel_rfl) (by kernel_rfl) ?_ | refine zcm ?_ | refine zcn ?_ | (refine zap rfl ?_; first | refine reg_load_d2 0 rfl rfl (by omega) ?_ | refine reg_store_d2 0 rfl rfl rfl (by omega) rfl ?_ | refine zan rfl ?_ | refine zan rfl ?_ | refine zbl rfl rfl (by omega) ?_ | refine zau rfl rfl (by omega) ?_ | refine zav rfl rfl (by omega) ?_ | refine zas rfl rfl (by omega) ?_) | refine zch ?_ | refine zcj rfl ?_)
    refine cut_end ⟨rfl, (i2 + 1, j2 - 1, swp d i2 j2), ⟨rfl, rfl, rfl, int_eq (by first | rfl | omega | (dsimp only; omega)), int_eq (by first | rfl | omega | (dsimp only; omega)), trivial⟩, ⟨rfl, by dsimp only; omega, by dsimp only; omega, by dsimp only; omega, ?_, ?_⟩, by dsimp only; omega⟩
    · rw [Go.Sort.size_swp]; exact g4
    · rw [if_neg hgt] at hpe
      rw [← g5, hpe]
end Go.Proofs.YtloekplbhknepaaGreat.SF

namespace Go.Proofs.YtloekplbhknepaaGreat.SF
open Go.Vc
open Go.Sort (swp scanSorted shiftDown shiftUp partialIns partialInsertionSort)
theorem sd_go {j : Nat} {d : Array (Int × Int)} (hl : ltP d[j + 1]! d[j]! = true) : shiftDown ltP (j + 1) d = shiftDown ltP j (swp d (j + 1) j) := by
  rw [shiftDown]; simp [hl]
theorem sd_stop {j : Nat} {d : Array (Int × Int)} (hl : ltP d[j + 1]! d[j]! = false) : shiftDown ltP (j + 1) d = d := by
  rw [shiftDown]; simp [hl]
theorem su_go {b j : Nat} {d : Array (Int × Int)} (h : j < b) (hl : ltP d[j]! d[j - 1]! = true) : shiftUp ltP b j d = shiftUp ltP b (j + 1) (swp d j (j - 1)) := by
  rw [shiftUp, if_pos h, if_neg (by simp [hl])]
theorem su_stop {b j : Nat} {d : Array (Int × Int)} (hl : j < b → ltP d[j]! d[j - 1]! = false) : shiftUp ltP b j d = d := by
  rw [shiftUp]
  split
  · rename_i h; rw [if_pos (by simp [hl h])]
  · rfl
theorem ss_go {b i : Nat} {d : Array (Int × Int)} (h : i < b) (hl : ltP d[i]! d[i - 1]! = false) : scanSorted ltP d b i = scanSorted ltP d b (i + 1) := by
  rw [scanSorted, if_pos (by simp only [hl, Bool.not_false, Bool.and_true, decide_eq_true_eq]; exact h)]
theorem ss_stop {b i : Nat} {d : Array (Int × Int)} (hl : i < b → ltP d[i]! d[i - 1]! = true) : scanSorted ltP d b i = i := by
  rw [scanSorted, if_neg]
  simp only [Bool.and_eq_true, decide_eq_true_eq, not_and, Bool.not_eq_true]
  intro h; rw [hl h]; rfl
theorem ss_range {b : Nat} {d : Array (Int × Int)} : ∀ (m i : Nat), b - i = m → i ≤ b → i ≤ scanSorted ltP d b i ∧ scanSorted ltP d b i ≤ b := by
  intro m
  induction m with
  | zero => intro i h1 h2; rw [ss_stop (fun h => by omega)]; omega
  | succ m ih =>
    intro i h1 h2
    cases hl : ltP d[i]! d[i - 1]! with
    | true => rw [ss_stop (fun _ => hl)]; omega
    | false =>
      rw [ss_go (by omega) hl]
      have := ih (i + 1) (by omega) (by omega)
      omega
theorem pi_true {a b s i : Nat} {d : Array (Int × Int)} (h : scanSorted ltP d b i = b) : partialIns ltP a b (s + 1) i d = (d, true) := by
  rw [partialIns]; simp only [h, if_true]
theorem pi_small {a b s i : Nat} {d : Array (Int × Int)} (h : scanSorted ltP d b i ≠ b) (h5 : b - a < 50) : partialIns ltP a b (s + 1) i d = (d, false) := by
  rw [partialIns]; simp only [h, h5, if_true, if_false]
theorem pi_go {a b s i j : Nat} {d : Array (Int × Int)} (hj : j = scanSorted ltP d b i) (h : j ≠ b) (h5 : ¬ b - a < 50) : partialIns ltP a b (s + 1) i d =
    partialIns ltP a b s j (if b - j ≥ 2 then shiftUp ltP b (j + 1) (if j - a ≥ 2 then shiftDown ltP (j - 1) (swp d j (j - 1)) else swp d j (j - 1)) else (if j - a ≥ 2 then shiftDown ltP (j - 1) (swp d j (j - 1)) else swp d j (j - 1))) := by
  rw [partialIns]; simp only [← hj, h, h5, if_false]
set_option maxHeartbeats 4000000
theorem partial_spec (w0 : World) (F : FuncId) (hcF : CmpF F) (bb N cap : Nat) (D : Array (Int × Int)) (a b : Nat) (hN : N ≤ 1152921504606846975) (hab : a < b) (hb : b ≤ N) :
    FnE PP w0 [] 115 [.slice (some ⟨bb, 0, none⟩) N cap, .int .i64 a, .int .i64 b, .func (.func F) #[] #[]] [Dat2 134 bb N cap D]
      (.bool (partialInsertionSort ltP D a b).2) [Dat2 134 bb N cap (partialInsertionSort ltP D a b).1] := by
  refine fn_of_run en115 fn115 rfl rfl rfl ?_
  repeat' (first | refine zck ?_ | refine zcp (by kernel_rfl) ?_ | refine zcl ?_ | (refine zap rfl ?_; first | refine zan rfl ?_ | refine zan rfl ?_ | refine zau rfl rfl (by omega) ?_) | refine zch ?_)
  refine run_loop (S := Nat × Nat × Array (Int × Int)) (fun s => [(0, .slice (some ⟨bb, 0, none⟩) N cap), (3, .func (.func F) #[] #[]), (1, .int .i64 a), (2, .int .i64 b), (8, .bool false), (9, .int .i64 s.2.1), (10, .int .i64 (5 - (s.1 : Int)))])
    (fun s Γ => Γ = [Dat2 134 bb N cap s.2.2] ∧ s.1 ≤ 5 ∧ a < s.2.1 ∧ s.2.1 ≤ b ∧ partialIns ltP a b s.1 s.2.1 s.2.2 = partialInsertionSort ltP D a b)
    (fun s => s.1) (5, a + 1, D) ⟨rfl, rfl, rfl, rfl, rfl, int_eq (by first | rfl | omega | (dsimp only; omega)), rfl, trivial⟩ ⟨rfl, by dsimp only; omega, by dsimp only; omega, by dsimp only; omega, rfl⟩ ?_
  generalize partialInsertionSort ltP D a b = RR
  rintro ⟨s, i, d⟩ Γ junk ⟨rfl, g1, g2, g3, g5⟩
  dsimp only at g1 g2 g3 g5 ⊢
  by_cases hs : 0 < s
  · obtain ⟨s, rfl⟩ : ∃ m, s = m + 1 := ⟨s - 1, by omega⟩
    repeat (first | refine zck ?_ | refine zcl ?_ | refine zcm ?_ | refine zcn ?_)
    first | refine zcp (by kernel_rfl) ?_ | refine run_drawR PP_mixed (by kernel_rfl) (by kernel_rfl) ?_
    repeat' (refine zap rfl ?_; first | refine zan rfl ?_ | refine zbg rfl rfl (by omega) ?_)
    all_goals refine zch ?_
    all_goals repeat (refine zck ?_)
    refine zci rfl ?_
    repeat (first | refine zcm ?_ | refine zck ?_)
    refine zcl ?_
    repeat refine zck ?_
    obtain ⟨j, hj⟩ : ∃ j, j = scanSorted ltP d b i := ⟨_, rfl⟩
    have hjr : i ≤ j ∧ j ≤ b := by rw [hj]; exact ss_range _ i rfl g3
    refine run_bind_eq (l' := [(0, .slice (some ⟨bb, 0, none⟩) N cap), (3, .func (.func F) #[] #[]), (1, .int .i64 a), (2, .int .i64 b), (8, .bool false), (9, .int .i64 j), (10, .int .i64 (5 - ((s + 1 : Nat) : Int)))]) (Γ' := [Dat2 134 bb N cap d]) ?_ (fun junk => ?_)
    · repeat' (first | refine zcl ?_ | (refine zap rfl ?_; first | refine zaj rfl ?_ | refine zak rfl ?_ | refine zal rfl ?_ | refine zam rfl rfl (fun _ => ?_) (fun _ => ?_)) | refine zch ?_)
      refine run_loop (S := Nat) (fun u => [(0, .slice (some ⟨bb, 0, none⟩) N cap), (3, .func (.func F) #[] #[]), (1, .int .i64 a), (2, .int .i64 b), (8, .bool false), (9, .int .i64 u), (10, .int .i64 (5 - ((s + 1 : Nat) : Int)))])
        (fun u Γ => Γ = [Dat2 134 bb N cap d] ∧ a < u ∧ u ≤ b ∧ scanSorted ltP d b u = j) (fun u => b - u) i ⟨rfl, rfl, rfl, rfl, rfl, rfl, rfl, trivial⟩ ⟨rfl, by omega, by omega, hj.symm⟩ ?_
      rintro u Γ junk ⟨rfl, h1, h2, h4⟩
      have e1 : ((u : Nat) : Int).toNat = u := by omega
      have e2 : (((u : Nat) : Int) - 1).toNat = u - 1 := by omega
      by_cases hc : u < b
      · repeat' (first | refine zck ?_ | refine run_drawR PP_mixed (by kernel_rfl) (by kernel_rfl) ?_ | (refine zap rfl ?_; first | refine reg_load_d2 0 rfl rfl (by omega) ?_ | refine zaj rfl ?_ | refine zan rfl ?_ | refine zah [] (hcF w0 _ _) rfl rfl rfl sub_nil rfl ?_ | refine zbg rfl rfl (by omega) ?_ | refine zav rfl rfl (by omega) ?_ | refine zbq rfl rfl ?_ | refine zby rfl ?_ | refine zbu rfl ?_ | refine zas rfl rfl (by omega) ?_) | refine zch ?_)
        refine run_cond rfl (fun hE => ?_) (fun hE => ?_)
        · rw [e1, e2] at hE
          repeat' (first | refine zcp (by kernel_rfl) ?_ | refine zcm ?_ | refine zcl ?_ | refine zcn ?_ | (refine zap rfl ?_; first | refine zan rfl ?_ | refine zan rfl ?_ | refine zau rfl rfl (by omega) ?_) | refine zch ?_)
          refine cut_end ⟨rfl, u + 1, ⟨rfl, rfl, rfl, rfl, rfl, int_eq (by first | rfl | omega | (dsimp only; omega)), rfl, trivial⟩, ⟨rfl, by omega, by omega, ?_⟩, by omega⟩
          rw [← h4, ss_go hc (by simpa [ltP] using hE)]
        · rw [e1, e2] at hE
          refine cut_exit rfl rfl ?_
          refine cut_end ⟨rfl, ⟨rfl, rfl, rfl, rfl, rfl, int_eq (congrArg Int.ofNat (by rw [← h4, ss_stop (fun _ => by simpa [ltP] using hE)])), rfl, trivial⟩, rfl⟩
      · repeat' (first | refine zck ?_ | refine run_drawR PP_mixed (by kernel_rfl) (by kernel_rfl) ?_ | (refine zap rfl ?_; first | refine zak rfl ?_ | refine zan rfl ?_ | refine zbh rfl rfl (by omega) ?_ | refine zbv rfl ?_) | refine zch ?_ | refine zcj rfl ?_)
        refine cut_exit rfl rfl ?_
        refine cut_end ⟨rfl, ⟨rfl, rfl, rfl, rfl, rfl, int_eq (congrArg Int.ofNat (by rw [← h4, ss_stop (fun h => absurd h hc)])), rfl, trivial⟩, rfl⟩
    by_cases hjb : j = b
    · repeat' (first | refine zck ?_ | refine zcp (by kernel_rfl) ?_ | (refine zap rfl ?_; first | refine zan rfl ?_ | refine zan rfl ?_ | refine zbc rfl rfl (by omega) ?_) | refine zch ?_ | refine zci rfl ?_)
      refine qret1 (fun _ _ h => h) rfl ⟨?_, (show [_] = [_] from ?_)⟩
      · rw [← g5, pi_true (by omega)]; rfl
      · rw [← g5, pi_true (by omega)]
    · by_cases h50 : b - a < 50
      · repeat' (first | refine zck ?_ | refine zcp (by kernel_rfl) ?_ | refine zcm ?_ | (refine zap rfl ?_; first | refine zan rfl ?_ | refine zan rfl ?_ | refine zbd rfl rfl (by omega) ?_ | refine zbg rfl rfl (by omega) ?_ | refine zav rfl rfl (by omega) ?_) | refine zch ?_ | refine zci rfl ?_ | refine zcj rfl ?_)
        refine qret1 (fun _ _ h => h) rfl ⟨?_, (show [_] = [_] from ?_)⟩
        · rw [← g5, pi_small (by omega) h50]; rfl
        · rw [← g5, pi_small (by omega) h50]
      · rw [pi_go hj hjb h50] at g5
        have e1 : ((j : Nat) : Int).toNat = j := by omega
        have e2 : (((j : Nat) : Int) - 1).toNat = j - 1 := by omega
        obtain ⟨d1, hd1⟩ : ∃ d1, d1 = swp d j (j - 1) := ⟨_, rfl⟩
        obtain ⟨d2, hd2⟩ : ∃ d2, d2 = if j - a ≥ 2 then shiftDown ltP (j - 1) d1 else d1 := ⟨_, rfl⟩
        obtain ⟨d3, hd3⟩ : ∃ d3, d3 = if b - j ≥ 2 then shiftUp ltP b (j + 1) d2 else d2 := ⟨_, rfl⟩
        rw [← hd1, ← hd2, ← hd3] at g5
        repeat (first | refine zck ?_ | refine zcl ?_ | refine zcm ?_ | refine zcn ?_)
        first | refine zcp (by kernel_rfl) ?_ | refine run_drawR PP_mixed (by kernel_rfl) (by kernel_rfl) ?_
        repeat' (refine zap rfl ?_; first | refine zan rfl ?_ | refine zbd rfl rfl (by omega) ?_)
        all_goals refine zch ?_
        all_goals repeat (first | refine zck ?_ | refine zcl ?_ | refine zcm ?_ | refine zcn ?_)
        refine zcj rfl ?_
        refine zcm ?_
        repeat (first | refine zck ?_ | refine zcl ?_ | refine zcm ?_ | refine zcn ?_)
        first | refine zcp (by kernel_rfl) ?_ | refine run_drawR PP_mixed (by kernel_rfl) (by kernel_rfl) ?_
        repeat' (refine zap rfl ?_; first | refine zan rfl ?_ | refine zbh rfl rfl (by omega) ?_ | refine zav rfl rfl (by omega) ?_)
        all_goals refine zch ?_
        all_goals repeat (first | refine zck ?_ | refine zcl ?_ | refine zcm ?_ | refine zcn ?_)
        refine zcj rfl ?_
        refine zcm ?_
        repeat (first | refine zck ?_ | refine zcl ?_ | refine zcm ?_ | refine zcn ?_)
        first | refine zcp (by kernel_rfl) ?_ | refine run_drawR PP_mixed (by kernel_rfl) (by kernel_rfl) ?_
        repeat' (refine zap rfl ?_; first | refine reg_load_d2 0 rfl rfl (by omega) ?_ | refine reg_store_d2 0 rfl rfl rfl (by omega) rfl ?_ | refine zan rfl ?_ | refine zav rfl rfl (by omega) ?_ | refine zas rfl rfl (by omega) ?_)
        all_goals refine zch ?_
        all_goals repeat (first | refine zck ?_ | refine zcl ?_ | refine zcm ?_ | refine zcn ?_)
        repeat (first | refine zck ?_ | refine zcl ?_ | refine zcm ?_ | refine zcn ?_)
        first | refine zcp (by kernel_rfl) ?_ | refine run_drawR PP_mixed (by kernel_rfl) (by kernel_rfl) ?_
        repeat' (refine zap rfl ?_; first | refine zan rfl ?_ | refine zav rfl rfl (by omega) ?_ | refine zbt rfl rfl ?_)
        all_goals refine zch ?_
        all_goals repeat (first | refine zck ?_ | refine zcl ?_ | refine zcm ?_ | refine zcn ?_)
        refine run_bind_eq (l' := [(0, .slice (some ⟨bb, 0, none⟩) N cap), (3, .func (.func F) #[] #[]), (1, .int .i64 a), (2, .int .i64 b), (8, .bool false), (9, .int .i64 j), (10, .int .i64 (5 - ((s + 1 : Nat) : Int)))]) (Γ' := [Dat2 134 bb N cap d2]) ?_ (fun junk => ?_)
        · refine run_cond rfl (fun hc => ?_) (fun hc => ?_)
          · rw [if_pos (by omega)] at hd2
            repeat' (first | refine zck ?_ | refine zcp (by kernel_rfl) ?_ | refine zcl ?_ | (refine zap rfl ?_; first | refine zan rfl ?_ | refine zan rfl ?_ | refine zav rfl rfl (by omega) ?_) | refine zch ?_)
            refine run_loop (S := Nat × Array (Int × Int)) (fun s' => [(0, .slice (some ⟨bb, 0, none⟩) N cap), (3, .func (.func F) #[] #[]), (1, .int .i64 a), (2, .int .i64 b), (8, .bool false), (9, .int .i64 j), (10, .int .i64 (5 - ((s + 1 : Nat) : Int))), (11, .int .i64 s'.1)])
              (fun s' Γ => Γ = [Dat2 134 bb N cap s'.2] ∧ s'.1 < b ∧ shiftDown ltP s'.1 s'.2 = d2) (fun s' => s'.1) (j - 1, d1) ⟨rfl, rfl, rfl, rfl, rfl, rfl, rfl, int_eq (by first | rfl | omega | (dsimp only; omega)), trivial⟩ ⟨by rw [hd1, e1, e2]; rfl, by dsimp only; omega, hd2.symm⟩ ?_
            rintro ⟨u, v⟩ Γ junk ⟨rfl, h1, h4⟩
            dsimp only at h1 h4 ⊢
            by_cases hu : 0 < u
            · obtain ⟨u, rfl⟩ : ∃ m, u = m + 1 := ⟨u - 1, by omega⟩
              have e3 : ((u + 1 : Nat) : Int).toNat = u + 1 := by omega
              have e4 : (((u + 1 : Nat) : Int) - 1).toNat = u := by omega
              repeat' (first | refine zck ?_ | refine zcp (by kernel_rfl) ?_ | refine run_drawR PP_mixed (by kernel_rfl) (by kernel_rfl) ?_ | refine zcm ?_ | refine zcl ?_ | (refine zap rfl ?_; first | refine reg_load_d2 0 rfl rfl (by omega) ?_ | refine zan rfl ?_ | refine zah [] (hcF w0 _ _) rfl rfl rfl sub_nil rfl ?_ | refine zbm rfl rfl (by omega) ?_ | refine zav rfl rfl (by omega) ?_ | refine zbq rfl rfl ?_ | refine zby rfl ?_ | refine zas rfl rfl (by omega) ?_) | refine zch ?_ | refine zci rfl ?_)
              refine run_cond rfl (fun hE => ?_) (fun hE => ?_)
              · rw [e3, e4] at hE
                refine cut_exit rfl rfl ?_
                refine cut_end ⟨rfl, ⟨rfl, rfl, rfl, rfl, rfl, rfl, rfl, trivial⟩, ?_⟩
                rw [← h4, sd_stop (by simpa [ltP] using hE)]; rfl
              · rw [e3, e4] at hE
                repeat' (first | refine zcp (by kernel_rfl) ?_ | refine run_drawR PP_mixed (by kernel_rfl) (by kernel_rfl) ?_ | refine zcm ?_ | refine zcn ?_ | (refine zap rfl ?_; first | refine reg_load_d2 0 rfl rfl (by omega) ?_ | refine reg_store_d2 0 rfl rfl rfl (by omega) rfl ?_ | refine zan rfl ?_ | refine zan rfl ?_ | refine zav rfl rfl (by omega) ?_ | refine zas rfl rfl (by omega) ?_) | refine zch ?_)
                refine cut_end ⟨rfl, (u, swp v (u + 1) u), ⟨rfl, rfl, rfl, rfl, rfl, rfl, rfl, int_eq (by first | rfl | omega | (dsimp only; omega)), trivial⟩, ⟨?_, by dsimp only; omega, ?_⟩, by dsimp only; omega⟩
                · rw [e3, e4]; rfl
                · rw [← h4, sd_go (by simpa [ltP] using hE)]
            · have hu0 : u = 0 := by omega
              subst hu0
              repeat' (first | refine zck ?_ | refine zcp (by kernel_rfl) ?_ | (refine zap rfl ?_; first | refine zan rfl ?_ | refine zbn rfl rfl (by omega) ?_) | refine zch ?_ | refine zcj rfl ?_)
              refine cut_exit rfl rfl ?_
              refine cut_end ⟨rfl, ⟨rfl, rfl, rfl, rfl, rfl, rfl, rfl, trivial⟩, ?_⟩
              rw [← h4]; rfl
          · rw [if_neg (by omega)] at hd2
            repeat' (first | refine zcm ?_ | (refine zap rfl ?_; first | refine reg_load_d2 0 rfl rfl (by omega) ?_) | refine zch ?_)
            refine cut_end ⟨rfl, ⟨rfl, rfl, rfl, rfl, rfl, rfl, rfl, trivial⟩, ?_⟩
            rw [hd2, hd1, e1, e2]; rfl
        repeat (first | refine zck ?_ | refine zcl ?_ | refine zcm ?_ | refine zcn ?_)
        first | refine zcp (by kernel_rfl) ?_ | refine run_drawR PP_mixed (by kernel_rfl) (by kernel_rfl) ?_
        repeat' (refine zap rfl ?_; first | refine zan rfl ?_ | refine zav rfl rfl (by omega) ?_ | refine zbt rfl rfl ?_)
        all_goals refine zch ?_
        all_goals repeat (first | refine zck ?_ | refine zcl ?_ | refine zcm ?_ | refine zcn ?_)
        refine run_bind_eq (l' := [(0, .slice (some ⟨bb, 0, none⟩) N cap), (3, .func (.func F) #[] #[]), (1, .int .i64 a), (2, .int .i64 b), (8, .bool false), (9, .int .i64 j), (10, .int .i64 (5 - ((s + 1 : Nat) : Int)))]) (Γ' := [Dat2 134 bb N cap d3]) ?_ (fun junk => ?_)
        · refine run_cond rfl (fun hc => ?_) (fun hc => ?_)
          · rw [if_pos (by omega)] at hd3
            repeat' (first | refine zck ?_ | refine zcp (by kernel_rfl) ?_ | refine zcl ?_ | (refine zap rfl ?_; first | refine zan rfl ?_ | refine zan rfl ?_ | refine zau rfl rfl (by omega) ?_) | refine zch ?_)
            refine run_loop (S := Nat × Array (Int × Int)) (fun s' => [(0, .slice (some ⟨bb, 0, none⟩) N cap), (3, .func (.func F) #[] #[]), (1, .int .i64 a), (2, .int .i64 b), (8, .bool false), (9, .int .i64 j), (10, .int .i64 (5 - ((s + 1 : Nat) : Int))), (12, .int .i64 s'.1)])
              (fun s' Γ => Γ = [Dat2 134 bb N cap s'.2] ∧ 0 < s'.1 ∧ s'.1 ≤ b ∧ shiftUp ltP b s'.1 s'.2 = d3) (fun s' => b - s'.1) (j + 1, d2) ⟨rfl, rfl, rfl, rfl, rfl, rfl, rfl, int_eq (by first | rfl | omega | (dsimp only; omega)), trivial⟩ ⟨rfl, by dsimp only; omega, by dsimp only; omega, hd3.symm⟩ ?_
            rintro ⟨u, v⟩ Γ junk ⟨rfl, h0, h1, h4⟩
            dsimp only at h0 h1 h4 ⊢
            by_cases hu : u < b
            · have e3 : ((u : Nat) : Int).toNat = u := by omega
              have e4 : (((u : Nat) : Int) - 1).toNat = u - 1 := by omega
              repeat' (first | refine zck ?_ | refine zcp (by kernel_rfl) ?_ | refine run_drawR PP_mixed (by kernel_rfl) (by kernel_rfl) ?_ | refine zcm ?_ | refine zcl ?_ | (refine zap rfl ?_; first | refine reg_load_d2 0 rfl rfl (by omega) ?_ | refine zan rfl ?_ | refine zah [] (hcF w0 _ _) rfl rfl rfl sub_nil rfl ?_ | refine zbg rfl rfl (by omega) ?_ | refine zav rfl rfl (by omega) ?_ | refine zbq rfl rfl ?_ | refine zby rfl ?_ | refine zas rfl rfl (by omega) ?_) | refine zch ?_ | refine zci rfl ?_)
              refine run_cond rfl (fun hE => ?_) (fun hE => ?_)
              · rw [e3, e4] at hE
                refine cut_exit rfl rfl ?_
                refine cut_end ⟨rfl, ⟨rfl, rfl, rfl, rfl, rfl, rfl, rfl, trivial⟩, ?_⟩
                rw [← h4, su_stop (fun _ => by simpa [ltP] using hE)]; rfl
              · rw [e3, e4] at hE
                repeat' (first | refine zcp (by kernel_rfl) ?_ | refine run_drawR PP_mixed (by kernel_rfl) (by kernel_rfl) ?_ | refine zcm ?_ | refine zcn ?_ | (refine zap rfl ?_; first | refine reg_load_d2 0 rfl rfl (by omega) ?_ | refine reg_store_d2 0 rfl rfl rfl (by omega) rfl ?_ | refine zan rfl ?_ | refine zan rfl ?_ | refine zau rfl rfl (by omega) ?_ | refine zav rfl rfl (by omega) ?_ | refine zas rfl rfl (by omega) ?_) | refine zch ?_)
                refine cut_end ⟨rfl, (u + 1, swp v u (u - 1)), ⟨rfl, rfl, rfl, rfl, rfl, rfl, rfl, int_eq (by first | rfl | omega | (dsimp only; omega)), trivial⟩, ⟨?_, by dsimp only; omega, by dsimp only; omega, ?_⟩, by dsimp only; omega⟩
                · rw [e3, e4]; rfl
                · rw [← h4, su_go hu (by simpa [ltP] using hE)]
            · repeat' (first | refine zck ?_ | refine zcp (by kernel_rfl) ?_ | (refine zap rfl ?_; first | refine zan rfl ?_ | refine zbh rfl rfl (by omega) ?_) | refine zch ?_ | refine zcj rfl ?_)
              refine cut_exit rfl rfl ?_
              refine cut_end ⟨rfl, ⟨rfl, rfl, rfl, rfl, rfl, rfl, rfl, trivial⟩, ?_⟩
              rw [← h4, su_stop (fun h => absurd h hu)]
          · rw [if_neg (by omega)] at hd3
            repeat' (first | refine zcm ?_ | (refine zap rfl ?_; first | refine reg_load_d2 0 rfl rfl (by omega) ?_) | refine zch ?_)
            refine cut_end ⟨rfl, ⟨rfl, rfl, rfl, rfl, rfl, rfl, rfl, trivial⟩, ?_⟩
            rw [hd3]
        repeat' (first | refine zcp (by kernel_rfl) ?_ | refine zcn ?_ | (refine zap rfl ?_; first | refine zan rfl ?_ | refine zan rfl ?_ | refine zau rfl rfl (by omega) ?_) | refine zch ?_)
        refine cut_end ⟨rfl, (s, j, d3), ⟨rfl, rfl, rfl, rfl, rfl, rfl, int_eq (by first | rfl | omega | (dsimp only; omega)), trivial⟩, ⟨rfl, by dsimp only; omega, by dsimp only; omega, by dsimp only; omega, g5⟩, by dsimp only; omega⟩
  · repeat' (first | refine zck ?_ | refine zcp (by kernel_rfl) ?_ | (refine zap rfl ?_; first | refine zan rfl ?_ | refine zbh rfl rfl (by omega) ?_) | refine zch ?_ | refine zcj rfl ?_)
    refine cut_exit rfl rfl ?_
    repeat' (first | refine zck ?_ | refine zcp (by kernel_rfl) ?_ | (refine zap rfl ?_; first | refine zan rfl ?_) | refine zch ?_)
    have hs0 : s = 0 := by omega
    subst hs0
    refine ret_tmp1 rfl ⟨?_, (show [_] = [_] from ?_)⟩
    · rw [← g5]; rfl
    · rw [← g5]; rfl
end Go.Proofs.YtloekplbhknepaaGreat.SF

namespace Go.Proofs.YtloekplbhknepaaGreat.SF
open Go.Vc
open Go.Sort (order2 median medianAdjacent choosePivot Hint)
abbrev Swp (sw s : Nat) : Asn := pt sw (.cells (List.toArray [.int .i64 (s : Int)]) 3 (0, 0))
theorem o2_true {D : Array (Int × Int)} {a b s : Nat} (h : ltP D[b]! D[a]! = true) : order2 ltP D a b s = (b, a, s + 1) := by rw [order2, if_pos h]
theorem o2_false {D : Array (Int × Int)} {a b s : Nat} (h : ltP D[b]! D[a]! = false) : order2 ltP D a b s = (a, b, s) := by rw [order2, if_neg (by rw [h]; exact Bool.false_ne_true)]
theorem o2_lt {D : Array (Int × Int)} {a b s N : Nat} (ha : a < N) (hb : b < N) : (order2 ltP D a b s).1 < N ∧ (order2 ltP D a b s).2.1 < N ∧ (order2 ltP D a b s).2.2 ≤ s + 1 := by
  cases h : ltP D[b]! D[a]! with
  | true => rw [o2_true h]; exact ⟨hb, ha, Nat.le_refl _⟩
  | false => rw [o2_false h]; exact ⟨ha, hb, Nat.le_succ _⟩
theorem order2_spec (w0 : World) (F : FuncId) (hcF : CmpF F) (bb N cap : Nat) (D : Array (Int × Int)) (sw a b s : Nat) (hN : N ≤ 1152921504606846975) (ha : a < N) (hb : b < N) (hs : s ≤ 1000) :
    FnE PP w0 [] 142 [.slice (some ⟨bb, 0, none⟩) N cap, .int .i64 a, .int .i64 b, .pointer (some ⟨sw, 0, none⟩), .func (.func F) #[] #[]] [Dat2 134 bb N cap D, Swp sw s]
      (.tuple #[.int .i64 ((order2 ltP D a b s).1 : Nat), .int .i64 ((order2 ltP D a b s).2.1 : Nat)]) [Dat2 134 bb N cap D, Swp sw (order2 ltP D a b s).2.2] := by
  refine fn_of_run en142 fn142 rfl rfl rfl ?_
  have e1 : ((a : Nat) : Int).toNat = a := by omega
  have e2 : ((b : Nat) : Int).toNat = b := by omega
  repeat' (first | refine zck ?_ | refine zcp (by kernel_rfl) ?_ | refine run_drawR PP_mixed (by kernel_rfl) (by kernel_rfl) ?_ | (refine zap rfl ?_; first | refine reg_load_d2 0 rfl rfl (by omega) ?_ | refine zan rfl ?_ | refine zan rfl ?_ | refine zah [] (hcF w0 _ _) rfl rfl rfl sub_nil rfl ?_ | refine zbq rfl rfl ?_ | refine zas rfl rfl (by omega) ?_) | refine zch ?_)
  refine run_cond rfl (fun hE => ?_) (fun hE => ?_)
  · rw [e1, e2] at hE
    repeat' (first | refine zck ?_ | refine zcp (by kernel_rfl) ?_ | (refine zap rfl ?_; first | refine zan rfl ?_ | refine zan rfl ?_ | refine zab 1 rfl rfl rfl ?_ | refine zau rfl rfl (by omega) ?_ | refine zae 1 rfl rfl rfl rfl rfl rfl rfl ?_ | refine zan rfl ?_) | refine zch ?_)
    rw [o2_true (by simpa [ltP] using hE)]
    exact ret_tmp2 rfl ⟨rfl, rfl⟩
  · rw [e1, e2] at hE
    repeat' (first | refine zck ?_ | refine zcp (by kernel_rfl) ?_ | refine zcm ?_ | (refine zap rfl ?_; first | refine zan rfl ?_ | refine zan rfl ?_) | refine zch ?_)
    rw [o2_false (by simpa [ltP] using hE)]
    exact ret_tmp2 rfl ⟨rfl, rfl⟩
theorem median_spec (w0 : World) (F : FuncId) (hcF : CmpF F) (bb N cap : Nat) (D : Array (Int × Int)) (sw s : Nat) (za zb zc : Int) (a b c : Nat) (hN : N ≤ 1152921504606846975) (ha : a < N) (hb : b < N) (hc : c < N) (hs : s ≤ 900) (e1 : za = a) (e2 : zb = b) (e3 : zc = c) :
    FnE PP w0 [] 136 [.slice (some ⟨bb, 0, none⟩) N cap, .int .i64 za, .int .i64 zb, .int .i64 zc, .pointer (some ⟨sw, 0, none⟩), .func (.func F) #[] #[]] [Dat2 134 bb N cap D, Swp sw s]
      (.int .i64 ((median ltP D a b c s).1 : Nat)) [Dat2 134 bb N cap D, Swp sw (median ltP D a b c s).2] := by
  subst e1; subst e2; subst e3
  refine fn_of_run en136 fn136 rfl rfl rfl ?_
  have h1 := o2_lt (D := D) (s := s) ha hb
  have h2 := o2_lt (D := D) (s := (order2 ltP D a b s).2.2) h1.2.1 hc
  have h3 := o2_lt (D := D) (s := (order2 ltP D (order2 ltP D a b s).2.1 c (order2 ltP D a b s).2.2).2.2) h1.1 h2.1
  repeat' (first | refine zck ?_ | refine zcp (by kernel_rfl) ?_ | (refine zap rfl ?_; first | refine zan rfl ?_ | refine zan rfl ?_ | refine zah [0, 0] (order2_spec w0 F hcF bb N cap D sw _ _ _ hN (by omega) (by omega) (by omega)) rfl rfl rfl sub_nil rfl ?_ | refine zan rfl ?_) | refine zch ?_)
  exact ret_tmp1 rfl ⟨rfl, rfl⟩
theorem median_lt {D : Array (Int × Int)} {a b c s N : Nat} (ha : a < N) (hb : b < N) (hc : c < N) : (median ltP D a b c s).1 < N ∧ (median ltP D a b c s).2 ≤ s + 3 := by
  have h1 := o2_lt (D := D) (s := s) ha hb
  have h2 := o2_lt (D := D) (s := (order2 ltP D a b s).2.2) h1.2.1 hc
  have h3 := o2_lt (D := D) (s := (order2 ltP D (order2 ltP D a b s).2.1 c (order2 ltP D a b s).2.2).2.2) h1.1 h2.1
  exact ⟨h3.2.1, by show (order2 ltP D _ _ _).2.2 ≤ _; omega⟩
theorem adj_spec (w0 : World) (F : FuncId) (hcF : CmpF F) (bb N cap : Nat) (D : Array (Int × Int)) (sw s : Nat) (za : Int) (a : Nat) (hN : N ≤ 1152921504606846975) (ha : a + 1 < N) (h0 : 0 < a) (hs : s ≤ 900) (e1 : za = a) :
    FnE PP w0 [] 135 [.slice (some ⟨bb, 0, none⟩) N cap, .int .i64 za, .pointer (some ⟨sw, 0, none⟩), .func (.func F) #[] #[]] [Dat2 134 bb N cap D, Swp sw s]
      (.int .i64 ((medianAdjacent ltP D a s).1 : Nat)) [Dat2 134 bb N cap D, Swp sw (medianAdjacent ltP D a s).2] := by
  subst e1
  refine fn_of_run en135 fn135 rfl rfl rfl ?_
  repeat' (first | refine zck ?_ | refine zcp (by kernel_rfl) ?_ | (refine zap rfl ?_; first | refine zan rfl ?_ | refine zan rfl ?_ | refine zah [0, 0] (median_spec w0 F hcF bb N cap D sw s _ _ _ (a - 1) a (a + 1) hN (by omega) (by omega) (by omega) hs (by omega) (by omega) (by omega)) rfl rfl rfl sub_nil rfl ?_ | refine zau rfl rfl (by omega) ?_ | refine zav rfl rfl (by omega) ?_) | refine zch ?_)
  exact ret_tmp1 rfl ⟨rfl, rfl⟩
end Go.Proofs.YtloekplbhknepaaGreat.SF

namespace Go.Proofs.YtloekplbhknepaaGreat.SF
open Go.Vc
open Go.Sort (order2 median medianAdjacent choosePivot Hint)
def hintI : Hint → Int
  | .unknown => 0
  | .increasing => 1
  | .decreasing => 2
def piv (D : Array (Int × Int)) (a b : Nat) : Nat × Nat :=
  if b - a ≥ 8 then
    if b - a ≥ 50 then
      median ltP D (medianAdjacent ltP D (a + (b - a) / 4 * 1) 0).1 (medianAdjacent ltP D (a + (b - a) / 4 * 2) (medianAdjacent ltP D (a + (b - a) / 4 * 1) 0).2).1
        (medianAdjacent ltP D (a + (b - a) / 4 * 3) (medianAdjacent ltP D (a + (b - a) / 4 * 2) (medianAdjacent ltP D (a + (b - a) / 4 * 1) 0).2).2).1
        (medianAdjacent ltP D (a + (b - a) / 4 * 3) (medianAdjacent ltP D (a + (b - a) / 4 * 2) (medianAdjacent ltP D (a + (b - a) / 4 * 1) 0).2).2).2
    else median ltP D (a + (b - a) / 4 * 1) (a + (b - a) / 4 * 2) (a + (b - a) / 4 * 3) 0
  else (a + (b - a) / 4 * 2, 0)
theorem choose_eq (D : Array (Int × Int)) (a b : Nat) : choosePivot ltP D a b = ((piv D a b).1, if (piv D a b).2 = 0 then .increasing else if (piv D a b).2 = 12 then .decreasing else .unknown) := rfl
set_option maxHeartbeats 4000000
theorem choose_spec (w0 : World) (F : FuncId) (hcF : CmpF F) (bb N cap : Nat) (D : Array (Int × Int)) (a b : Nat) (hN : N ≤ 1152921504606846975) (hab : a < b) (hb : b ≤ N) :
    Vc.Fn PP w0 [] 113 [.slice (some ⟨bb, 0, none⟩) N cap, .int .i64 a, .int .i64 b, .func (.func F) #[] #[]] [Dat2 134 bb N cap D]
      fun v Γ => v = .tuple #[.int .i64 ((choosePivot ltP D a b).1 : Nat), .int .i64 (hintI (choosePivot ltP D a b).2)] ∧ ∃ sw s, Γ = [Dat2 134 bb N cap D, Swp sw s] := by
  refine fn_of_run en113 fn113 rfl rfl rfl ?_
  obtain ⟨r, hr⟩ : ∃ r, r = piv D a b := ⟨_, rfl⟩
  repeat (first | refine zck ?_ | refine zcl ?_ | refine zcm ?_ | refine zcn ?_)
  first | refine zcp (by kernel_rfl) ?_ | refine run_drawR PP_mixed (by kernel_rfl) (by kernel_rfl) ?_
  repeat' (refine zap rfl ?_; first | refine zan rfl ?_)
  all_goals refine zch ?_
  all_goals repeat (first | refine zck ?_ | refine zcl ?_ | refine zcm ?_ | refine zcn ?_)
  repeat (first | refine zck ?_ | refine zcl ?_ | refine zcm ?_ | refine zcn ?_)
  first | refine zcp (by kernel_rfl) ?_ | refine run_drawR PP_mixed (by kernel_rfl) (by kernel_rfl) ?_
  repeat' (refine zap rfl ?_; first | refine zan rfl ?_ | refine zan rfl ?_ | refine zav rfl rfl (by omega) ?_)
  all_goals refine zch ?_
  all_goals repeat (first | refine zck ?_ | refine zcl ?_ | refine zcm ?_ | refine zcn ?_)
  repeat (first | refine zck ?_ | refine zcl ?_ | refine zcm ?_ | refine zcn ?_)
  first | refine zcp (by kernel_rfl) ?_ | refine run_drawR PP_mixed (by kernel_rfl) (by kernel_rfl) ?_
  repeat' (refine zap rfl ?_; first | refine zar (fun nb => ?_))
  all_goals refine zch ?_
  all_goals repeat (first | refine zck ?_ | refine zcl ?_ | refine zcm ?_ | refine zcn ?_)
  repeat (first | refine zck ?_ | refine zcl ?_ | refine zcm ?_ | refine zcn ?_)
  first | refine zcp (by kernel_rfl) ?_ | refine run_drawR PP_mixed (by kernel_rfl) (by kernel_rfl) ?_
  repeat' (refine zap rfl ?_; first | refine zan rfl ?_ | refine zan rfl ?_ | refine zau rfl rfl (by omega) ?_ | refine zaw rfl rfl (by omega) ?_ | refine zax rfl rfl (by omega) ?_)
  all_goals refine zch ?_
  all_goals repeat (first | refine zck ?_ | refine zcl ?_ | refine zcm ?_ | refine zcn ?_)
  repeat (first | refine zck ?_ | refine zcl ?_ | refine zcm ?_ | refine zcn ?_)
  first | refine zcp (by kernel_rfl) ?_ | refine run_drawR PP_mixed (by kernel_rfl) (by kernel_rfl) ?_
  repeat' (refine zap rfl ?_; first | refine zan rfl ?_ | refine zan rfl ?_ | refine zau rfl rfl (by omega) ?_ | refine zaw rfl rfl (by omega) ?_ | refine zax rfl rfl (by omega) ?_)
  all_goals refine zch ?_
  all_goals repeat (first | refine zck ?_ | refine zcl ?_ | refine zcm ?_ | refine zcn ?_)
  repeat (first | refine zck ?_ | refine zcl ?_ | refine zcm ?_ | refine zcn ?_)
  first | refine zcp (by kernel_rfl) ?_ | refine run_drawR PP_mixed (by kernel_rfl) (by kernel_rfl) ?_
  repeat' (refine zap rfl ?_; first | refine zan rfl ?_ | refine zan rfl ?_ | refine zau rfl rfl (by omega) ?_ | refine zaw rfl rfl (by omega) ?_ | refine zax rfl rfl (by omega) ?_)
  all_goals refine zch ?_
  all_goals repeat (first | refine zck ?_ | refine zcl ?_ | refine zcm ?_ | refine zcn ?_)
  repeat (first | refine zck ?_ | refine zcl ?_ | refine zcm ?_ | refine zcn ?_)
  first | refine zcp (by kernel_rfl) ?_ | refine run_drawR PP_mixed (by kernel_rfl) (by kernel_rfl) ?_
  repeat' (refine zap rfl ?_; first | refine zan rfl ?_ | refine zbt rfl rfl ?_)
  all_goals refine zch ?_
  all_goals repeat (first | refine zck ?_ | refine zcl ?_ | refine zcm ?_ | refine zcn ?_)
  refine run_bind_eq (l' := [(11, .pointer (some ⟨nb, 0, none⟩)), (13, .int .i64 (r.1 : Nat))]) (Γ' := [Dat2 134 bb N cap D, Swp nb r.2]) ?_ (fun junk => ?_)
  · refine run_cond rfl (fun hc => ?_) (fun hc => ?_)
    · by_cases h50 : 50 ≤ b - a
      · have m1 := median_lt (D := D) (a := a + (b - a) / 4 * 1 - 1) (b := a + (b - a) / 4 * 1) (c := a + (b - a) / 4 * 1 + 1) (s := 0) (N := N) (by omega) (by omega) (by omega)
        obtain ⟨r1, hr1⟩ : ∃ r1, r1 = medianAdjacent ltP D (a + (b - a) / 4 * 1) 0 := ⟨_, rfl⟩
        have m1 : r1.1 < N ∧ r1.2 ≤ 0 + 3 := by rw [hr1]; exact m1
        have m2 := median_lt (D := D) (a := a + (b - a) / 4 * 2 - 1) (b := a + (b - a) / 4 * 2) (c := a + (b - a) / 4 * 2 + 1) (s := r1.2) (N := N) (by omega) (by omega) (by omega)
        obtain ⟨r2, hr2⟩ : ∃ r2, r2 = medianAdjacent ltP D (a + (b - a) / 4 * 2) r1.2 := ⟨_, rfl⟩
        have m2 : r2.1 < N ∧ r2.2 ≤ r1.2 + 3 := by rw [hr2]; exact m2
        have m3 := median_lt (D := D) (a := a + (b - a) / 4 * 3 - 1) (b := a + (b - a) / 4 * 3) (c := a + (b - a) / 4 * 3 + 1) (s := r2.2) (N := N) (by omega) (by omega) (by omega)
        obtain ⟨r3, hr3⟩ : ∃ r3, r3 = medianAdjacent ltP D (a + (b - a) / 4 * 3) r2.2 := ⟨_, rfl⟩
        have m3 : r3.1 < N ∧ r3.2 ≤ r2.2 + 3 := by rw [hr3]; exact m3
        have hrr : r = median ltP D r1.1 r2.1 r3.1 r3.2 := by rw [hr, piv, if_pos (by omega), if_pos h50, ← hr1, ← hr2, ← hr3]
        have A1 := adj_spec w0 F hcF bb N cap D nb 0 ((a : Int) + ((b : Int) - a) / 4 * 1) (a + (b - a) / 4 * 1) hN (by omega) (by omega) (by omega) (by omega)
        have A2 := adj_spec w0 F hcF bb N cap D nb r1.2 ((a : Int) + ((b : Int) - a) / 4 * 2) (a + (b - a) / 4 * 2) hN (by omega) (by omega) (by omega) (by omega)
        have A3 := adj_spec w0 F hcF bb N cap D nb r2.2 ((a : Int) + ((b : Int) - a) / 4 * 3) (a + (b - a) / 4 * 3) hN (by omega) (by omega) (by omega) (by omega)
        rw [← hr1] at A1; rw [← hr2] at A2; rw [← hr3] at A3
        have A4 := median_spec w0 F hcF bb N cap D nb r3.2 _ _ _ r1.1 r2.1 r3.1 hN (by omega) (by omega) (by omega) (by omega) rfl rfl rfl
        rw [← hrr] at A4
        repeat' (first | refine zck ?_ | refine zcp (by kernel_rfl) ?_ | (refine zap rfl ?_; first | refine zan rfl ?_ | refine zan rfl ?_ | refine zah [0, 0] A1 rfl rfl rfl sub_nil rfl ?_ | refine zah [0, 0] A2 rfl rfl rfl sub_nil rfl ?_ | refine zah [0, 0] A3 rfl rfl rfl sub_nil rfl ?_ | refine zah [0, 0] A4 rfl rfl rfl sub_nil rfl ?_ | refine zbm rfl rfl (by omega) ?_) | refine zch ?_ | refine zci rfl ?_)
        refine cut_end ⟨rfl, ⟨rfl, rfl, trivial⟩, rfl⟩
      · have A4 := median_spec w0 F hcF bb N cap D nb 0 ((a : Int) + ((b : Int) - a) / 4 * 1) ((a : Int) + ((b : Int) - a) / 4 * 2) ((a : Int) + ((b : Int) - a) / 4 * 3) (a + (b - a) / 4 * 1) (a + (b - a) / 4 * 2) (a + (b - a) / 4 * 3) hN (by omega) (by omega) (by omega) (by omega) (by omega) (by omega) (by omega)
        have hrr : r = median ltP D (a + (b - a) / 4 * 1) (a + (b - a) / 4 * 2) (a + (b - a) / 4 * 3) 0 := by rw [hr, piv, if_pos (by omega), if_neg h50]
        rw [← hrr] at A4
        repeat' (first | refine zck ?_ | refine zcp (by kernel_rfl) ?_ | refine zcm ?_ | (refine zap rfl ?_; first | refine zan rfl ?_ | refine zan rfl ?_ | refine zah [0, 0] A4 rfl rfl rfl sub_nil rfl ?_ | refine zbn rfl rfl (by omega) ?_) | refine zch ?_ | refine zcj rfl ?_)
        refine cut_end ⟨rfl, ⟨rfl, rfl, trivial⟩, rfl⟩
    · have hrr : r = (a + (b - a) / 4 * 2, 0) := by rw [hr, piv, if_neg (by omega)]
      subst hrr
      repeat' (first | refine zcm ?_ | (refine zap rfl ?_; first | refine zan rfl ?_) | refine zch ?_)
      refine cut_end ⟨rfl, ⟨rfl, int_eq (by dsimp only; omega), trivial⟩, rfl⟩
  · repeat' (first | refine zck ?_ | refine zcp (by kernel_rfl) ?_ | refine zcl ?_ | (refine zap rfl ?_; first | refine zan rfl ?_ | refine zab 1 rfl rfl rfl ?_ | refine zbo rfl rfl ?_) | refine zch ?_)
    rw [choose_eq, ← hr]
    refine run_cond rfl (fun h0 => ?_) (fun h0 => ?_)
    · repeat' (first | refine zck ?_ | refine zcp (by kernel_rfl) ?_ | (refine zap rfl ?_; first | refine zan rfl ?_ | refine zan rfl ?_) | refine zch ?_)
      refine ret_tmp2 rfl ⟨?_, nb, r.2, rfl⟩
      rw [if_pos (by omega)]; rfl
    · repeat' (first | refine zck ?_ | refine zcp (by kernel_rfl) ?_ | (refine zap rfl ?_; first | refine zan rfl ?_ | refine zbo rfl rfl ?_) | refine zch ?_)
      refine run_cond rfl (fun h1 => ?_) (fun h1 => ?_)
      · repeat' (first | refine zck ?_ | refine zcp (by kernel_rfl) ?_ | (refine zap rfl ?_; first | refine zan rfl ?_ | refine zan rfl ?_) | refine zch ?_)
        refine ret_tmp2 rfl ⟨?_, nb, r.2, rfl⟩
        rw [if_neg (by omega), if_pos (by omega)]; rfl
      · repeat' (first | refine zck ?_ | refine zcp (by kernel_rfl) ?_ | (refine zap rfl ?_; first | refine zan rfl ?_ | refine zan rfl ?_) | refine zch ?_)
        refine ret_tmp2 rfl ⟨?_, nb, r.2, rfl⟩
        rw [if_neg (by omega), if_neg (by omega)]; rfl
end Go.Proofs.YtloekplbhknepaaGreat.SF

namespace Go.Proofs.YtloekplbhknepaaGreat
open Go.Vc

theorem isNaN_spec (w0 : World) (x : Int) : FnE PP w0 [] 141 [.int .i64 x] [] (.bool false) [] := by
  refine fn_of_run en141 fn141 rfl rfl rfl ?_
  repeat' (first | refine zck ?_ | refine zcp (by kernel_rfl) ?_ | (refine zap rfl ?_; first | refine zan rfl ?_ | refine zan rfl ?_ | refine zbp rfl rfl ?_) | refine zch ?_)
  refine ret_tmp1 rfl ⟨(show Value.bool (decide (x ≠ x)) = _ from ?_), rfl⟩
  simp
theorem less_spec (w0 : World) (x y : Int) : FnE PP w0 [] 129 [.int .i64 x, .int .i64 y] [] (.bool (Go.Sort.ltInt x y)) [] := by
  refine fn_of_run en129 fn129 rfl rfl rfl ?_
  repeat' (first | refine zck ?_ | refine zcp (by kernel_rfl) ?_ | (refine zap rfl ?_; first | refine zaj rfl ?_ | refine zak rfl ?_ | refine zan rfl ?_ | refine zan rfl ?_ | refine zah [] (isNaN_spec w0 _) rfl rfl rfl sub_nil rfl ?_ | refine zbq rfl rfl ?_ | refine zbv rfl ?_) | refine zch ?_)
  refine ret_tmp1 rfl ⟨?_, rfl⟩
  rfl
end Go.Proofs.YtloekplbhknepaaGreat

namespace Go.Proofs.YtloekplbhknepaaGreat
open Go.Vc
open Go.Sort (ltInt swp insInner insOuter insertionSort)

theorem ins_step {a j : Nat} {d : Array Int} (h : a < j + 1) (hl : ltInt d[j + 1]! d[j]! = true) : insInner ltInt a (j + 1) d = insInner ltInt a j (swp d (j + 1) j) := by
  rw [insInner]; simp [h, hl]
theorem ins_stop {a j : Nat} {d : Array Int} (hl : ltInt d[j + 1]! d[j]! = false) : insInner ltInt a (j + 1) d = d := by
  rw [insInner]; simp [hl]
theorem ins_end {a j : Nat} {d : Array Int} (h : j ≤ a) : insInner ltInt a j d = d := by
  cases j with
  | zero => rfl
  | succ j => rw [insInner]; simp; omega
theorem insOuter_lt {a b i : Nat} {d : Array Int} (h : i < b) : insOuter ltInt a b i d = insOuter ltInt a b (i + 1) (insInner ltInt a i d) := by
  rw [insOuter, if_pos h]
theorem insOuter_ge {a b i : Nat} {d : Array Int} (h : b ≤ i) : insOuter ltInt a b i d = d := by
  rw [insOuter, if_neg (by omega)]
theorem ins_spec (w0 : World) (bb N cap : Nat) (D : Array Int) (a b : Nat) (hN : N ≤ 4611686018427387903) (hab : a ≤ b) (hb : b ≤ N) (hD : D.size = N) :
    FnE PP w0 [] 123 [.slice (some ⟨bb, 0, none⟩) N cap, .int .i64 a, .int .i64 b] [Dat 28 bb N cap D] (.tuple #[]) [Dat 28 bb N cap (insertionSort ltInt D a b)] := by
  refine fn_of_run en123 fn123 rfl rfl rfl ?_
  repeat' (first | refine zck ?_ | refine zcp (by kernel_rfl) ?_ | refine zcl ?_ | (refine zap rfl ?_; first | refine zan rfl ?_ | refine zan rfl ?_ | refine zau rfl rfl (by omega) ?_) | refine zch ?_)
  refine run_loop (S := Nat × Array Int) (fun s => [(0, .slice (some ⟨bb, 0, none⟩) N cap), (1, .int .i64 a), (2, .int .i64 b), (6, .int .i64 s.1)])
    (fun s Γ => Γ = [Dat 28 bb N cap s.2] ∧ a < s.1 ∧ s.1 ≤ b + 1 ∧ s.2.size = N ∧ insOuter ltInt a b s.1 s.2 = insertionSort ltInt D a b)
    (fun s => b + 1 - s.1) (a + 1, D) ⟨rfl, rfl, rfl, rfl, trivial⟩ ⟨rfl, by omega, by omega, hD, rfl⟩ ?_
  rintro ⟨i, d⟩ Γ junk ⟨rfl, h1, h2, h3, h4⟩
  dsimp only at h1 h2 h3 h4 ⊢
  by_cases hi : i < b
  · repeat' (first | refine zck ?_ | refine zcp (by kernel_rfl) ?_ | refine zcm ?_ | refine zcl ?_ | (refine zap rfl ?_; first | refine zan rfl ?_ | refine zan rfl ?_ | refine zbg rfl rfl (by omega) ?_) | refine zch ?_ | refine zci rfl ?_)
    refine run_loop (S := Nat × Array Int) (fun s => [(0, .slice (some ⟨bb, 0, none⟩) N cap), (1, .int .i64 a), (2, .int .i64 b), (6, .int .i64 i), (7, .int .i64 s.1)])
      (fun s Γ => Γ = [Dat 28 bb N cap s.2] ∧ a ≤ s.1 ∧ s.1 ≤ i ∧ s.2.size = N ∧ insInner ltInt a s.1 s.2 = insInner ltInt a i d)
      (fun s => s.1) (i, d) ⟨rfl, rfl, rfl, rfl, rfl, trivial⟩ ⟨rfl, by omega, by omega, h3, rfl⟩ ?_
    rintro ⟨j, e⟩ Γ junk ⟨rfl, g1, g2, g3, g4⟩
    dsimp only at g1 g2 g3 g4 ⊢
    by_cases hj : a < j
    · obtain ⟨j, rfl⟩ : ∃ m, j = m + 1 := ⟨j - 1, by omega⟩
      repeat' (first | refine zck ?_ | refine run_drawR PP_mixed (by kernel_rfl) (by kernel_rfl) ?_ | (refine zap rfl ?_; first | refine reg_load_d 0 rfl rfl (by omega) ?_ | refine zaj rfl ?_ | refine zan rfl ?_ | refine zah [] (less_spec w0 _ _) rfl rfl rfl sub_nil rfl ?_ | refine zbk rfl rfl (by omega) ?_ | refine zav rfl rfl (by omega) ?_ | refine zbu rfl ?_ | refine zas rfl rfl (by omega) ?_) | refine zch ?_)
      have e1 : ((j + 1 : Nat) : Int).toNat = j + 1 := by omega
      have e2 : (((j + 1 : Nat) : Int) - 1).toNat = j := by omega
      refine run_cond rfl (fun hE => ?_) (fun hE => ?_)
      · repeat' (first | refine zck ?_ | refine zcp (by kernel_rfl) ?_ | refine run_drawR PP_mixed (by kernel_rfl) (by kernel_rfl) ?_ | refine zcm ?_ | refine zcl ?_ | refine zcn ?_ | (refine zap rfl ?_; first | refine reg_load_d 0 rfl rfl (by omega) ?_ | refine reg_store_d 0 rfl rfl rfl (by omega) rfl ?_ | refine zan rfl ?_ | refine zan rfl ?_ | refine zav rfl rfl (by omega) ?_ | refine zas rfl rfl (by omega) ?_) | refine zch ?_)
        rw [e1, e2] at hE
        refine cut_end ⟨rfl, (j, swp e (j + 1) j), ⟨rfl, rfl, rfl, rfl, int_eq (by omega), trivial⟩, ⟨?_, by omega, by omega, ?_, ?_⟩, by omega⟩
        · rw [e1, e2]; rfl
        · rw [Go.Sort.size_swp]; exact g3
        · rw [← g4, ins_step hj (decide_eq_true hE)]
      · rw [e1, e2] at hE
        refine cut_exit rfl rfl ?_
        repeat' (first | refine zcp (by kernel_rfl) ?_ | refine zcn ?_ | (refine zap rfl ?_; first | refine zan rfl ?_ | refine zan rfl ?_ | refine zau rfl rfl (by omega) ?_) | refine zch ?_)
        refine cut_end ⟨rfl, (i + 1, e), ⟨rfl, rfl, rfl, int_eq (by omega), trivial⟩, ⟨rfl, by omega, by omega, g3, ?_⟩, by omega⟩
        rw [ins_stop (decide_eq_false hE)] at g4
        rw [← h4, insOuter_lt hi, ← g4]
    · repeat' (first | refine zck ?_ | refine run_drawR PP_mixed (by kernel_rfl) (by kernel_rfl) ?_ | (refine zap rfl ?_; first | refine zak rfl ?_ | refine zan rfl ?_ | refine zbl rfl rfl (by omega) ?_ | refine zbv rfl ?_) | refine zch ?_ | refine zcj rfl ?_)
      refine cut_exit rfl rfl ?_
      repeat' (first | refine zcp (by kernel_rfl) ?_ | refine zcn ?_ | (refine zap rfl ?_; first | refine zan rfl ?_ | refine zan rfl ?_ | refine zau rfl rfl (by omega) ?_) | refine zch ?_)
      refine cut_end ⟨rfl, (i + 1, e), ⟨rfl, rfl, rfl, int_eq (by omega), trivial⟩, ⟨rfl, by omega, by omega, g3, ?_⟩, by omega⟩
      rw [ins_end (by omega)] at g4
      rw [← h4, insOuter_lt hi, ← g4]
  · repeat' (first | refine zck ?_ | refine zcp (by kernel_rfl) ?_ | (refine zap rfl ?_; first | refine zan rfl ?_ | refine zbh rfl rfl (by omega) ?_) | refine zch ?_ | refine zcj rfl ?_)
    refine cut_exit rfl rfl ?_
    repeat' (first | refine zck ?_ | (refine zap rfl ?_; first | refine zaj rfl ?_ | refine zak rfl ?_ | refine zal rfl ?_ | refine zam rfl rfl (fun _ => ?_) (fun _ => ?_)) | refine zch ?_)
    refine end_tmp0 rfl ⟨rfl, ?_⟩
    rw [← h4, insOuter_ge (by omega)]
end Go.Proofs.YtloekplbhknepaaGreat

namespace Go.Proofs.YtloekplbhknepaaGreat
open Go.Vc
open Go.Sort (ltInt swp reverseLoop reverseRange siftDown heapBuild heapPop heapSort)

theorem revl_lt {i j : Nat} {d : Array Int} (h : i < j) : reverseLoop i j d = reverseLoop (i + 1) (j - 1) (swp d i j) := by
  rw [reverseLoop, if_pos h]
theorem revl_ge {i j : Nat} {d : Array Int} (h : j ≤ i) : reverseLoop i j d = d := by
  rw [reverseLoop, if_neg (by omega)]
theorem rev_spec (w0 : World) (bb N cap : Nat) (D : Array Int) (a b : Nat) (hN : N ≤ 4611686018427387903) (hab : a < b) (hb : b ≤ N) (hD : D.size = N) :
    FnE PP w0 [] 127 [.slice (some ⟨bb, 0, none⟩) N cap, .int .i64 a, .int .i64 b] [Dat 28 bb N cap D] (.tuple #[]) [Dat 28 bb N cap (reverseRange D a b)] := by
  refine fn_of_run en127 fn127 rfl rfl rfl ?_
  repeat' (first | refine zck ?_ | refine zcp (by kernel_rfl) ?_ | refine zcl ?_ | (refine zap rfl ?_; first | refine zan rfl ?_ | refine zan rfl ?_ | refine zav rfl rfl (by omega) ?_) | refine zch ?_)
  refine run_loop (S := Nat × Nat × Array Int) (fun s => [(0, .slice (some ⟨bb, 0, none⟩) N cap), (6, .int .i64 s.1), (7, .int .i64 s.2.1)])
    (fun s Γ => Γ = [Dat 28 bb N cap s.2.2] ∧ s.1 ≤ s.2.1 + 1 ∧ s.2.1 < b ∧ s.2.2.size = N ∧ reverseLoop s.1 s.2.1 s.2.2 = reverseRange D a b)
    (fun s => s.2.1 + 1 - s.1) (a, b - 1, D) ⟨rfl, rfl, int_eq (by dsimp only; omega), trivial⟩ ⟨rfl, by dsimp only; omega, by dsimp only; omega, hD, rfl⟩ ?_
  rintro ⟨i, j, d⟩ Γ junk ⟨rfl, h1, h2, h3, h4⟩
  dsimp only at h1 h2 h3 h4 ⊢
  by_cases hi : i < j
  · repeat' (first | refine zck ?_ | refine zcp (by kernel_rfl) ?_ | refine run_drawR PP_mixed (by kernel_rfl) (by kernel_rfl) ?_ | refine zcm ?_ | refine zcl ?_ | refine zcn ?_ | (refine zap rfl ?_; first | refine reg_load_d 0 rfl rfl (by omega) ?_ | refine reg_store_d 0 rfl rfl rfl (by omega) rfl ?_ | refine zan rfl ?_ | refine zan rfl ?_ | refine zbg rfl rfl (by omega) ?_ | refine zau rfl rfl (by omega) ?_ | refine zav rfl rfl (by omega) ?_ | refine zas rfl rfl (by omega) ?_) | refine zch ?_ | refine zci rfl ?_)
    have e1 : ((i : Nat) : Int).toNat = i := by omega
    have e2 : ((j : Nat) : Int).toNat = j := by omega
    refine cut_end ⟨rfl, (i + 1, j - 1, swp d i j), ⟨rfl, int_eq (by dsimp only; omega), int_eq (by dsimp only; omega), trivial⟩, ⟨?_, by dsimp only; omega, by dsimp only; omega, ?_, ?_⟩, by dsimp only; omega⟩
    · rw [e1, e2]; rfl
    · rw [Go.Sort.size_swp]; exact h3
    · rw [← h4, revl_lt hi]
  · repeat' (first | refine zck ?_ | refine zcp (by kernel_rfl) ?_ | (refine zap rfl ?_; first | refine zan rfl ?_ | refine zbh rfl rfl (by omega) ?_) | refine zch ?_ | refine zcj rfl ?_)
    refine cut_exit rfl rfl ?_
    repeat' (first | refine zck ?_ | (refine zap rfl ?_; first | refine zan rfl ?_) | refine zch ?_)
    refine end_tmp0 rfl ⟨rfl, ?_⟩
    rw [← h4, revl_ge (by omega)]

theorem sift_ge {hi first root : Nat} {d : Array Int} (h : hi ≤ 2 * root + 1) : siftDown ltInt hi first root d = d := by
  rw [siftDown, dif_pos h]
def gch (hi first root : Nat) (d : Array Int) : Nat := if 2 * root + 1 + 1 < hi && ltInt d[first + (2 * root + 1)]! d[first + (2 * root + 1) + 1]! then 2 * root + 2 else 2 * root + 1
theorem gch_lt {hi first root : Nat} {d : Array Int} (h : 2 * root + 1 < hi) : gch hi first root d < hi ∧ root < gch hi first root d := by
  unfold gch
  split
  · rename_i hc; simp at hc; omega
  · omega
theorem sift_stop {hi first root : Nat} {d : Array Int} (h : 2 * root + 1 < hi) (hl : ltInt d[first + root]! d[first + gch hi first root d]! = false) : siftDown ltInt hi first root d = d := by
  rw [siftDown, dif_neg (by omega)]
  unfold gch at hl
  split
  · rename_i hc; rw [if_pos hc] at hl; simp [hl]
  · rename_i hc; rw [if_neg hc] at hl; simp [hl]
theorem sift_go {hi first root : Nat} {d : Array Int} (h : 2 * root + 1 < hi) (hl : ltInt d[first + root]! d[first + gch hi first root d]! = true) :
    siftDown ltInt hi first root d = siftDown ltInt hi first (gch hi first root d) (swp d (first + root) (first + gch hi first root d)) := by
  rw [siftDown, dif_neg (by omega)]
  unfold gch at hl ⊢
  split
  · rename_i hc; rw [if_pos hc] at hl; simp only [hl, Bool.not_true, Bool.false_eq_true, if_false]; rw [dif_pos (by simp at hc; omega)]
  · rename_i hc; rw [if_neg hc] at hl; simp only [hl, Bool.not_true, Bool.false_eq_true, if_false]
set_option maxHeartbeats 2000000 in
theorem sift_spec (w0 : World) (bb N cap : Nat) (D : Array Int) (lo hi first : Nat) (hN : N ≤ 1152921504606846975) (hf : first + hi ≤ N) (hlo : lo ≤ hi) (hD : D.size = N) :
    FnE PP w0 [] 138 [.slice (some ⟨bb, 0, none⟩) N cap, .int .i64 lo, .int .i64 hi, .int .i64 first] [Dat 28 bb N cap D] (.tuple #[]) [Dat 28 bb N cap (siftDown ltInt hi first lo D)] := by
  refine fn_of_run en138 fn138 rfl rfl rfl ?_
  repeat' (first | refine zck ?_ | refine zcp (by kernel_rfl) ?_ | refine zcl ?_ | (refine zap rfl ?_; first | refine zan rfl ?_ | refine zan rfl ?_) | refine zch ?_)
  refine run_loop (S := Nat × Array Int) (fun s => [(0, .slice (some ⟨bb, 0, none⟩) N cap), (2, .int .i64 hi), (3, .int .i64 first), (8, .int .i64 s.1)])
    (fun s Γ => Γ = [Dat 28 bb N cap s.2] ∧ s.1 ≤ hi ∧ s.2.size = N ∧ siftDown ltInt hi first s.1 s.2 = siftDown ltInt hi first lo D)
    (fun s => hi - s.1) (lo, D) ⟨rfl, rfl, rfl, rfl, trivial⟩ ⟨rfl, by omega, hD, rfl⟩ ?_
  rintro ⟨r, d⟩ Γ junk ⟨rfl, h1, h3, h4⟩
  dsimp only at h1 h3 h4 ⊢
  by_cases hi2 : 2 * r + 1 < hi
  · have e3 : ((first : Int) + (2 * (r : Int) + 1)).toNat = first + (2 * r + 1) := by omega
    have e4 : ((first : Int) + (2 * (r : Int) + 1) + 1).toNat = first + (2 * r + 1) + 1 := by omega
    by_cases hc : 2 * r + 2 < hi
    · repeat' (first | refine zck ?_ | refine zcp (by kernel_rfl) ?_ | refine run_drawR PP_mixed (by kernel_rfl) (by kernel_rfl) ?_ | refine zcm ?_ | refine zcl ?_ | (refine zap rfl ?_; first | refine reg_load_d 0 rfl rfl (by omega) ?_ | refine zaj rfl ?_ | refine zan rfl ?_ | refine zan rfl ?_ | refine zah [] (less_spec w0 _ _) rfl rfl rfl sub_nil rfl ?_ | refine zbg rfl rfl (by omega) ?_ | refine zbn rfl rfl (by omega) ?_ | refine zau rfl rfl (by omega) ?_ | refine zaw rfl rfl (by omega) ?_ | refine zbu rfl ?_ | refine zas rfl rfl (by omega) ?_) | refine zch ?_ | refine zcj rfl ?_)
      refine run_cond rfl (fun hE => ?_) (fun hE => ?_)
      · have hg : gch hi first r d = 2 * r + 2 := by
          unfold gch; rw [if_pos]
          rw [e3, e4] at hE
          simp only [Bool.and_eq_true, decide_eq_true_eq]; exact ⟨by omega, decide_eq_true hE⟩
        have e1 : ((first : Int) + (r : Int)).toNat = first + r := by omega
        have e2 : ((first : Int) + (2 * (r : Int) + 1 + 1)).toNat = first + (2 * r + 2) := by omega
        repeat' (first | refine zck ?_ | refine zcp (by kernel_rfl) ?_ | refine run_drawR PP_mixed (by kernel_rfl) (by kernel_rfl) ?_ | (refine zap rfl ?_; first | refine reg_load_d 0 rfl rfl (by omega) ?_ | refine zan rfl ?_ | refine zan rfl ?_ | refine zah [] (less_spec w0 _ _) rfl rfl rfl sub_nil rfl ?_ | refine zau rfl rfl (by omega) ?_ | refine zby rfl ?_ | refine zas rfl rfl (by omega) ?_) | refine zch ?_)
        refine run_cond rfl (fun hE2 => ?_) (fun hE2 => ?_)
        · rw [e1, e2] at hE2
          refine qret0 (fun _ _ h => h) rfl ⟨rfl, (show [_] = [_] from ?_)⟩
          rw [← h4, sift_stop hi2 (by rw [hg]; exact decide_eq_false (by simpa using hE2))]
        · rw [e1, e2] at hE2
          repeat' (first | refine zck ?_ | refine zcp (by kernel_rfl) ?_ | refine run_drawR PP_mixed (by kernel_rfl) (by kernel_rfl) ?_ | refine zcm ?_ | refine zcn ?_ | (refine zap rfl ?_; first | refine reg_load_d 0 rfl rfl (by omega) ?_ | refine reg_store_d 0 rfl rfl rfl (by omega) rfl ?_ | refine zan rfl ?_ | refine zan rfl ?_ | refine zau rfl rfl (by omega) ?_ | refine zas rfl rfl (by omega) ?_) | refine zch ?_)
          refine cut_end ⟨rfl, (2 * r + 2, swp d (first + r) (first + (2 * r + 2))), ⟨rfl, rfl, rfl, int_eq (by dsimp only; omega), trivial⟩, ⟨?_, by dsimp only; omega, ?_, ?_⟩, by dsimp only; omega⟩
          · rw [e1, e2]; rfl
          · rw [Go.Sort.size_swp]; exact h3
          · rw [← h4, sift_go hi2 (by rw [hg]; exact decide_eq_true (by simpa using hE2)), hg]
      · have hg : gch hi first r d = 2 * r + 1 := by
          unfold gch; rw [if_neg]
          rw [e3, e4] at hE
          simp only [Bool.and_eq_true, decide_eq_true_eq, not_and]; intro _ h; exact hE (of_decide_eq_true h)
        have e1 : ((first : Int) + (r : Int)).toNat = first + r := by omega
        have e2 : ((first : Int) + (2 * (r : Int) + 1)).toNat = first + (2 * r + 1) := by omega
        repeat' (first | refine zck ?_ | refine run_drawR PP_mixed (by kernel_rfl) (by kernel_rfl) ?_ | refine zcm ?_ | (refine zap rfl ?_; first | refine reg_load_d 0 rfl rfl (by omega) ?_ | refine zan rfl ?_ | refine zah [] (less_spec w0 _ _) rfl rfl rfl sub_nil rfl ?_ | refine zau rfl rfl (by omega) ?_ | refine zby rfl ?_ | refine zas rfl rfl (by omega) ?_) | refine zch ?_)
        refine run_cond rfl (fun hE2 => ?_) (fun hE2 => ?_)
        · rw [e1, e2] at hE2
          refine qret0 (fun _ _ h => h) rfl ⟨rfl, (show [_] = [_] from ?_)⟩
          rw [← h4, sift_stop hi2 (by rw [hg]; exact decide_eq_false (by simpa using hE2))]
        · rw [e1, e2] at hE2
          repeat' (first | refine zck ?_ | refine zcp (by kernel_rfl) ?_ | refine run_drawR PP_mixed (by kernel_rfl) (by kernel_rfl) ?_ | refine zcm ?_ | refine zcn ?_ | (refine zap rfl ?_; first | refine reg_load_d 0 rfl rfl (by omega) ?_ | refine reg_store_d 0 rfl rfl rfl (by omega) rfl ?_ | refine zan rfl ?_ | refine zan rfl ?_ | refine zau rfl rfl (by omega) ?_ | refine zas rfl rfl (by omega) ?_) | refine zch ?_)
          refine cut_end ⟨rfl, (2 * r + 1, swp d (first + r) (first + (2 * r + 1))), ⟨rfl, rfl, rfl, int_eq (by dsimp only; omega), trivial⟩, ⟨?_, by dsimp only; omega, ?_, ?_⟩, by dsimp only; omega⟩
          · rw [e1, e2]; rfl
          · rw [Go.Sort.size_swp]; exact h3
          · rw [← h4, sift_go hi2 (by rw [hg]; exact decide_eq_true (by simpa using hE2)), hg]
    · have hg : gch hi first r d = 2 * r + 1 := by
        unfold gch; rw [if_neg]
        simp only [Bool.and_eq_true, decide_eq_true_eq, not_and]; intro h; omega
      have e1 : ((first : Int) + (r : Int)).toNat = first + r := by omega
      have e2 : ((first : Int) + (2 * (r : Int) + 1)).toNat = first + (2 * r + 1) := by omega
      repeat' (first | refine zck ?_ | refine zcp (by kernel_rfl) ?_ | refine run_drawR PP_mixed (by kernel_rfl) (by kernel_rfl) ?_ | refine zcm ?_ | refine zcl ?_ | (refine zap rfl ?_; first | refine reg_load_d 0 rfl rfl (by omega) ?_ | refine zak rfl ?_ | refine zan rfl ?_ | refine zan rfl ?_ | refine zah [] (less_spec w0 _ _) rfl rfl rfl sub_nil rfl ?_ | refine zbh rfl rfl (by omega) ?_ | refine zbn rfl rfl (by omega) ?_ | refine zau rfl rfl (by omega) ?_ | refine zaw rfl rfl (by omega) ?_ | refine zby rfl ?_ | refine zbv rfl ?_ | refine zas rfl rfl (by omega) ?_) | refine zch ?_ | refine zcj rfl ?_)
      refine run_cond rfl (fun hE2 => ?_) (fun hE2 => ?_)
      · rw [e1, e2] at hE2
        refine qret0 (fun _ _ h => h) rfl ⟨rfl, (show [_] = [_] from ?_)⟩
        rw [← h4, sift_stop hi2 (by rw [hg]; exact decide_eq_false (by simpa using hE2))]
      · rw [e1, e2] at hE2
        repeat' (first | refine zck ?_ | refine zcp (by kernel_rfl) ?_ | refine run_drawR PP_mixed (by kernel_rfl) (by kernel_rfl) ?_ | refine zcm ?_ | refine zcn ?_ | (refine zap rfl ?_; first | refine reg_load_d 0 rfl rfl (by omega) ?_ | refine reg_store_d 0 rfl rfl rfl (by omega) rfl ?_ | refine zan rfl ?_ | refine zan rfl ?_ | refine zau rfl rfl (by omega) ?_ | refine zas rfl rfl (by omega) ?_) | refine zch ?_)
        refine cut_end ⟨rfl, (2 * r + 1, swp d (first + r) (first + (2 * r + 1))), ⟨rfl, rfl, rfl, int_eq (by dsimp only; omega), trivial⟩, ⟨?_, by dsimp only; omega, ?_, ?_⟩, by dsimp only; omega⟩
        · rw [e1, e2]; rfl
        · rw [Go.Sort.size_swp]; exact h3
        · rw [← h4, sift_go hi2 (by rw [hg]; exact decide_eq_true (by simpa using hE2)), hg]
  · repeat' (first | refine zck ?_ | refine zcp (by kernel_rfl) ?_ | refine zcl ?_ | (refine zap rfl ?_; first | refine zan rfl ?_ | refine zan rfl ?_ | refine zbm rfl rfl (by omega) ?_ | refine zau rfl rfl (by omega) ?_ | refine zaw rfl rfl (by omega) ?_) | refine zch ?_ | refine zci rfl ?_)
    refine cut_exit rfl rfl ?_
    repeat' (first | refine zck ?_ | (refine zap rfl ?_; first | refine zaj rfl ?_ | refine zak rfl ?_ | refine zal rfl ?_ | refine zam rfl rfl (fun _ => ?_) (fun _ => ?_)) | refine zch ?_)
    refine end_tmp0 rfl ⟨rfl, ?_⟩
    rw [← h4, sift_ge (by omega)]
theorem sift_specZ (w0 : World) (bb N cap : Nat) (D : Array Int) (zl zh zf : Int) (lo hi first : Nat) (hN : N ≤ 1152921504606846975) (hf : first + hi ≤ N) (hlo : lo ≤ hi) (hD : D.size = N) (e1 : zl = lo) (e2 : zh = hi) (e3 : zf = first) :
    FnE PP w0 [] 138 [.slice (some ⟨bb, 0, none⟩) N cap, .int .i64 zl, .int .i64 zh, .int .i64 zf] [Dat 28 bb N cap D] (.tuple #[]) [Dat 28 bb N cap (siftDown ltInt hi first lo D)] := by
  subst e1; subst e2; subst e3; exact sift_spec w0 bb N cap D lo hi first hN hf hlo hD
end Go.Proofs.YtloekplbhknepaaGreat

namespace Go.Proofs.YtloekplbhknepaaGreat
open Go.Vc
open Go.Sort (ltInt swp siftDown heapBuild heapPop heapSort)
theorem size_sift (hi first : Nat) : ∀ (m root : Nat) (d : Array Int), hi - root ≤ m → (siftDown ltInt hi first root d).size = d.size := by
  intro m
  induction m with
  | zero => intro root d h; rw [sift_ge (by omega)]
  | succ m ih =>
    intro root d h
    by_cases h1 : 2 * root + 1 < hi
    · have h2 := gch_lt (first := first) (d := d) h1
      cases hl : ltInt d[first + root]! d[first + gch hi first root d]! with
      | false => rw [sift_stop h1 hl]
      | true => rw [sift_go h1 hl, ih _ _ (by omega), Go.Sort.size_swp]
    · rw [sift_ge (by omega)]
theorem heap_spec (w0 : World) (bb N cap : Nat) (D : Array Int) (a b : Nat) (hN : N ≤ 1152921504606846975) (hab : a < b) (hb : b ≤ N) (hD : D.size = N) :
    FnE PP w0 [] 124 [.slice (some ⟨bb, 0, none⟩) N cap, .int .i64 a, .int .i64 b] [Dat 28 bb N cap D] (.tuple #[]) [Dat 28 bb N cap (heapSort ltInt D a b)] := by
  refine fn_of_run en124 fn124 rfl rfl rfl ?_
  repeat' (first | refine zck ?_ | refine zcp (by kernel_rfl) ?_ | refine zcl ?_ | (refine zap rfl ?_; first | refine zan rfl ?_ | refine zan rfl ?_ | refine zav rfl rfl (by omega) ?_ | refine zax rfl rfl (by omega) ?_) | refine zch ?_)
  refine run_loop (S := Nat × Array Int) (fun s => [(0, .slice (some ⟨bb, 0, none⟩) N cap), (6, .int .i64 a), (7, .int .i64 0), (8, .int .i64 (b - a)), (9, .int .i64 ((s.1 : Int) - 1))])
    (fun s Γ => Γ = [Dat 28 bb N cap s.2] ∧ s.1 ≤ b - a ∧ s.2.size = N ∧ heapBuild ltInt (b - a) a s.1 s.2 = heapBuild ltInt (b - a) a ((b - a - 1) / 2 + 1) D)
    (fun s => s.1) ((b - a - 1) / 2 + 1, D) ⟨rfl, rfl, rfl, rfl, int_eq (by dsimp only; omega), trivial⟩ ⟨rfl, by dsimp only; omega, hD, rfl⟩ ?_
  rintro ⟨i, d⟩ Γ junk ⟨rfl, h1, h3, h4⟩
  dsimp only at h1 h3 h4 ⊢
  by_cases hi : 0 < i
  · obtain ⟨i, rfl⟩ : ∃ m, i = m + 1 := ⟨i - 1, by omega⟩
    repeat' (first | refine zck ?_ | refine zcp (by kernel_rfl) ?_ | refine zcm ?_ | refine zcl ?_ | refine zcn ?_ | (refine zap rfl ?_; first | refine zan rfl ?_ | refine zan rfl ?_ | refine zah [0] (sift_specZ w0 bb N cap _ _ _ _ i (b - a) a hN (by omega) (by omega) h3 (by omega) (by omega) rfl) rfl rfl rfl sub_nil rfl ?_ | refine zbm rfl rfl (by omega) ?_ | refine zav rfl rfl (by omega) ?_) | refine zch ?_ | refine zci rfl ?_)
    refine cut_end ⟨rfl, (i, siftDown ltInt (b - a) a i d), ⟨rfl, rfl, rfl, rfl, int_eq (by dsimp only; omega), trivial⟩, ⟨rfl, by dsimp only; omega, ?_, ?_⟩, by dsimp only; omega⟩
    · rw [size_sift _ _ _ _ _ (Nat.le_refl _)]; exact h3
    · rw [← h4]; rfl
  · repeat' (first | refine zck ?_ | refine zcp (by kernel_rfl) ?_ | (refine zap rfl ?_; first | refine zan rfl ?_ | refine zbn rfl rfl (by omega) ?_) | refine zch ?_ | refine zcj rfl ?_)
    refine cut_exit rfl rfl ?_
    have hi0 : i = 0 := by omega
    subst hi0
    repeat' (first | refine zck ?_ | refine zcp (by kernel_rfl) ?_ | refine zcl ?_ | (refine zap rfl ?_; first | refine zan rfl ?_ | refine zan rfl ?_ | refine zav rfl rfl (by omega) ?_) | refine zch ?_)
    refine run_loop (S := Nat × Array Int) (fun s => [(0, .slice (some ⟨bb, 0, none⟩) N cap), (6, .int .i64 a), (7, .int .i64 0), (8, .int .i64 (b - a)), (10, .int .i64 ((s.1 : Int) - 1))])
      (fun s Γ => Γ = [Dat 28 bb N cap s.2] ∧ s.1 ≤ b - a ∧ s.2.size = N ∧ heapPop ltInt a s.1 s.2 = heapSort ltInt D a b)
      (fun s => s.1) (b - a, d) ⟨rfl, rfl, rfl, rfl, int_eq (by dsimp only; omega), trivial⟩ ⟨rfl, by dsimp only; omega, h3, by unfold heapSort; rw [← h4]; rfl⟩ ?_
    rintro ⟨i, d⟩ Γ junk ⟨rfl, g1, g3, g4⟩
    dsimp only at g1 g3 g4 ⊢
    by_cases hi : 0 < i
    · obtain ⟨i, rfl⟩ : ∃ m, i = m + 1 := ⟨i - 1, by omega⟩
      have e1 : ((a : Nat) : Int).toNat = a := by omega
      have e2 : ((a : Int) + (((i + 1 : Nat) : Int) - 1)).toNat = a + i := by omega
      have hs : (swp d (a : Int).toNat ((a : Int) + (((i + 1 : Nat) : Int) - 1)).toNat).size = N := by rw [Go.Sort.size_swp]; exact g3
      repeat' (first | refine zck ?_ | refine zcp (by kernel_rfl) ?_ | refine run_drawR PP_mixed (by kernel_rfl) (by kernel_rfl) ?_ | refine zcm ?_ | refine zcl ?_ | refine zcn ?_ | (refine zap rfl ?_; first | refine reg_load_d 0 rfl rfl (by omega) ?_ | refine reg_store_d 0 rfl rfl rfl (by omega) rfl ?_ | refine zan rfl ?_ | refine zan rfl ?_ | refine zah [0] (sift_specZ w0 bb N cap _ _ _ _ 0 i a hN (by omega) (by omega) hs (by omega) (by omega) rfl) rfl rfl rfl sub_nil rfl ?_ | refine zbm rfl rfl (by omega) ?_ | refine zau rfl rfl (by omega) ?_ | refine zav rfl rfl (by omega) ?_ | refine zas rfl rfl (by omega) ?_) | refine zch ?_ | refine zci rfl ?_)
      refine cut_end ⟨rfl, (i, siftDown ltInt i a 0 (swp d a (a + i))), ⟨rfl, rfl, rfl, rfl, int_eq (by dsimp only; omega), trivial⟩, ⟨?_, by dsimp only; omega, ?_, ?_⟩, by dsimp only; omega⟩
      · rw [e1, e2]; rfl
      · rw [size_sift _ _ _ _ _ (Nat.le_refl _), Go.Sort.size_swp]; exact g3
      · rw [← g4]; rfl
    · repeat' (first | refine zck ?_ | refine zcp (by kernel_rfl) ?_ | (refine zap rfl ?_; first | refine zan rfl ?_ | refine zbn rfl rfl (by omega) ?_) | refine zch ?_ | refine zcj rfl ?_)
      refine cut_exit rfl rfl ?_
      have hi0 : i = 0 := by omega
      subst hi0
      repeat' (first | refine zck ?_ | (refine zap rfl ?_; first | refine zan rfl ?_) | refine zch ?_)
      refine end_tmp0 rfl ⟨rfl, (show [_] = [_] from ?_)⟩
      rw [← g4]; rfl
end Go.Proofs.YtloekplbhknepaaGreat

namespace Go.Proofs.YtloekplbhknepaaGreat
open Go.Vc
open Go.Sort (ltInt swp scanUp scanDown partLoop partition partEqLoop partitionEqual)
theorem up_go {p : Int → Bool} {d : Array Int} {j i : Nat} (h : i ≤ j) (hp : p d[i]! = true) : scanUp p d j i = scanUp p d j (i + 1) := by
  rw [scanUp, if_pos (by simp only [hp, Bool.and_true, decide_eq_true_eq]; exact h)]
theorem up_stop {p : Int → Bool} {d : Array Int} {j i : Nat} (h : i ≤ j → p d[i]! = false) : scanUp p d j i = i := by
  rw [scanUp, if_neg]
  simp only [Bool.and_eq_true, decide_eq_true_eq, not_and, Bool.not_eq_true]; exact h
theorem down_go {p : Int → Bool} {d : Array Int} {i j : Nat} (h : i ≤ j + 1) (hp : p d[j + 1]! = true) : scanDown p d i (j + 1) = scanDown p d i j := by
  rw [scanDown, if_pos (by simp only [hp, Bool.and_true, decide_eq_true_eq]; exact h)]
theorem down_stop {p : Int → Bool} {d : Array Int} {i j : Nat} (h : 0 < j → i ≤ j → p d[j]! = false) : scanDown p d i j = j := by
  cases j with
  | zero => rfl
  | succ j =>
    rw [scanDown, if_neg]
    simp only [Bool.and_eq_true, decide_eq_true_eq, not_and, Bool.not_eq_true]; exact h (Nat.succ_pos _)
theorem part_gt {D d : Array Int} {a b pivot i j : Nat} (hd : d = swp D a pivot) (hi : i = scanUp (fun x => ltInt x d[a]!) d (b - 1) (a + 1)) (hj : j = scanDown (fun x => !ltInt x d[a]!) d i (b - 1)) (h : i > j) : partition ltInt D a b pivot = (j, true, swp d j a) := by
  unfold partition
  simp only [← hd, ← hi, ← hj]
  rw [if_pos h]
theorem part_le {D d : Array Int} {a b pivot i j : Nat} (hd : d = swp D a pivot) (hi : i = scanUp (fun x => ltInt x d[a]!) d (b - 1) (a + 1)) (hj : j = scanDown (fun x => !ltInt x d[a]!) d i (b - 1)) (h : ¬ i > j) :
    partition ltInt D a b pivot = ((partLoop ltInt a (i + 1) (j - 1) (swp d i j)).1, false, swp (partLoop ltInt a (i + 1) (j - 1) (swp d i j)).2 (partLoop ltInt a (i + 1) (j - 1) (swp d i j)).1 a) := by
  unfold partition
  simp only [← hd, ← hi, ← hj]
  rw [if_neg h]
set_option maxHeartbeats 4000000
theorem part_spec (w0 : World) (bb N cap : Nat) (D : Array Int) (a b pivot : Nat) (hN : N ≤ 1152921504606846975) (hap : a ≤ pivot) (hpb : pivot < b) (hb : b ≤ N) (hD : D.size = N) :
    FnE PP w0 [] 131 [.slice (some ⟨bb, 0, none⟩) N cap, .int .i64 a, .int .i64 b, .int .i64 pivot] [Dat 28 bb N cap D]
      (.tuple #[.int .i64 ((partition ltInt D a b pivot).1 : Nat), .bool (partition ltInt D a b pivot).2.1]) [Dat 28 bb N cap (partition ltInt D a b pivot).2.2] := by
  refine fn_of_run en131 fn131 rfl rfl rfl ?_
  repeat (first | refine zck ?_ | refine zcl ?_ | refine zcm ?_ | refine zcn ?_)
  first | refine zcp (by kernel_rfl) ?_ | refine run_drawR PP_mixed (by kernel_rfl) (by kernel_rfl) ?_
  repeat' (refine zap rfl ?_; first | refine zan rfl ?_)
  all_goals refine zch ?_
  all_goals repeat (refine zck ?_)
  repeat (first | refine zck ?_ | refine zcl ?_ | refine zcm ?_ | refine zcn ?_)
  first | refine zcp (by kernel_rfl) ?_ | refine run_drawR PP_mixed (by kernel_rfl) (by kernel_rfl) ?_
  repeat' (refine zap rfl ?_; first | refine reg_load_d 0 rfl rfl (by omega) ?_ | refine reg_store_d 0 rfl rfl rfl (by omega) rfl ?_ | refine zan rfl ?_ | refine zas rfl rfl (by omega) ?_)
  all_goals refine zch ?_
  all_goals repeat (refine zck ?_)
  repeat (first | refine zck ?_ | refine zcl ?_ | refine zcm ?_ | refine zcn ?_)
  first | refine zcp (by kernel_rfl) ?_ | refine run_drawR PP_mixed (by kernel_rfl) (by kernel_rfl) ?_
  repeat' (refine zap rfl ?_; first | refine zan rfl ?_ | refine zan rfl ?_ | refine zau rfl rfl (by omega) ?_ | refine zav rfl rfl (by omega) ?_)
  all_goals refine zch ?_
  all_goals repeat (refine zck ?_)
  obtain ⟨d, hd⟩ : ∃ d, d = swp D a pivot := ⟨_, rfl⟩
  have hds : d.size = N := by rw [hd, Go.Sort.size_swp]; exact hD
  obtain ⟨i, hi⟩ : ∃ i, i = scanUp (fun x => ltInt x d[a]!) d (b - 1) (a + 1) := ⟨_, rfl⟩
  obtain ⟨j, hj⟩ : ∃ j, j = scanDown (fun x => !ltInt x d[a]!) d i (b - 1) := ⟨_, rfl⟩
  have hi1 : a + 1 ≤ i := by rw [hi]; exact Go.Sort.scanUp_ge _ _ _ _
  have hi2 : i ≤ b - 1 + 1 := by rw [hi]; exact (Go.Sort.scanUp_spec _ d (b - 1) _ (a + 1) rfl).2.1 (by omega)
  have hj1 : j ≤ b - 1 := by rw [hj]; exact Go.Sort.scanDown_le _ _ _ _
  have hj2 : i ≤ j + 1 := by rw [hj]; exact (Go.Sort.scanDown_spec _ d i (b - 1)).2.1 hi2
  have hij : ¬ j < i → i < j := fun h => by
    rcases Nat.lt_or_ge i j with h1 | h1
    · exact h1
    · have e : j = i := by omega
      have p1 := (Go.Sort.scanUp_spec (fun x => ltInt x d[a]!) d (b - 1) _ (a + 1) rfl).2.2.2
      have p2 := (Go.Sort.scanDown_spec (fun x => !ltInt x d[a]!) d i (b - 1)).2.2.2
      rw [← hi] at p1; rw [← hj] at p2
      have p3 := p1 (by omega); have p4 := p2 (by omega) (by omega)
      rw [e] at p4; (try dsimp only at p3 p4); simp [p3] at p4
  refine run_bind_eq (l' := [(0, .slice (some ⟨bb, 0, none⟩) N cap), (1, .int .i64 a), (10, .int .i64 ((i : Nat) : Int)), (11, .int .i64 ((b - 1 : Nat) : Int))]) (Γ' := [Dat 28 bb N cap d]) ?_ (fun junk => ?_)
  · repeat' (first | refine zcl ?_ | (refine zap rfl ?_; first | refine zaj rfl ?_ | refine zak rfl ?_ | refine zal rfl ?_ | refine zam rfl rfl (fun _ => ?_) (fun _ => ?_)) | refine zch ?_)
    refine run_loop (S := Nat) (fun u => [(0, .slice (some ⟨bb, 0, none⟩) N cap), (1, .int .i64 a), (10, .int .i64 ((u : Nat) : Int)), (11, .int .i64 ((b - 1 : Nat) : Int))]) (fun u Γ => Γ = [Dat 28 bb N cap d] ∧ a + 1 ≤ u ∧ u ≤ b - 1 + 1 ∧ scanUp (fun x => ltInt x d[a]!) d (b - 1) u = i) (fun u => b - 1 + 1 - u) (a + 1) ⟨rfl, rfl, int_eq (by first | rfl | omega | (dsimp only; omega)), int_eq (by first | rfl | omega | (dsimp only; omega)), trivial⟩ ⟨?_, by omega, by omega, hi.symm⟩ ?_
    · rw [hd]; rfl
    rintro u Γ junk ⟨rfl, h1, h2, h4⟩
    try dsimp only at h1 h2 h4 ⊢
    by_cases hc : u ≤ b - 1
    · repeat' (first | refine zck ?_ | refine run_drawR PP_mixed (by kernel_rfl) (by kernel_rfl) ?_ | (refine zap rfl ?_; first | refine reg_load_d 0 rfl rfl (by omega) ?_ | refine zaj rfl ?_ | refine zan rfl ?_ | refine zah [] (less_spec w0 _ _) rfl rfl rfl sub_nil rfl ?_ | refine zbi rfl rfl (by omega) ?_ | refine zbu rfl ?_ | refine zas rfl rfl (by omega) ?_) | refine zch ?_)
      refine run_cond rfl (fun hE => ?_) (fun hE => ?_)
      · repeat' (first | refine zcp (by kernel_rfl) ?_ | refine zcm ?_ | refine zcl ?_ | refine zcn ?_ | (refine zap rfl ?_; first | refine zan rfl ?_ | refine zan rfl ?_ | refine zau rfl rfl (by omega) ?_) | refine zch ?_)
        refine cut_end ⟨rfl, u + 1, ⟨rfl, rfl, int_eq (by omega), rfl, trivial⟩, ⟨rfl, by omega, by omega, ?_⟩, by omega⟩
        rw [← h4, up_go hc (by simpa [ltInt] using hE)]
      · refine cut_exit rfl rfl ?_
        refine cut_end ⟨rfl, ⟨rfl, rfl, int_eq (congrArg Int.ofNat (by rw [← h4, up_stop (fun _ => by simpa [ltInt] using hE)])), rfl, trivial⟩, rfl⟩
    · repeat' (first | refine zck ?_ | refine run_drawR PP_mixed (by kernel_rfl) (by kernel_rfl) ?_ | (refine zap rfl ?_; first | refine zak rfl ?_ | refine zan rfl ?_ | refine zbj rfl rfl (by omega) ?_ | refine zbv rfl ?_) | refine zch ?_ | refine zcj rfl ?_)
      refine cut_exit rfl rfl ?_
      refine cut_end ⟨rfl, ⟨rfl, rfl, int_eq (congrArg Int.ofNat (by rw [← h4, up_stop (fun h => absurd h hc)])), rfl, trivial⟩, rfl⟩
  repeat refine zck ?_
  refine run_bind_eq (l' := [(0, .slice (some ⟨bb, 0, none⟩) N cap), (1, .int .i64 a), (10, .int .i64 ((i : Nat) : Int)), (11, .int .i64 ((j : Nat) : Int))]) (Γ' := [Dat 28 bb N cap d]) ?_ (fun junk => ?_)
  · repeat' (first | refine zcl ?_ | (refine zap rfl ?_; first | refine zaj rfl ?_ | refine zak rfl ?_ | refine zal rfl ?_ | refine zam rfl rfl (fun _ => ?_) (fun _ => ?_)) | refine zch ?_)
    refine run_loop (S := Nat) (fun u => [(0, .slice (some ⟨bb, 0, none⟩) N cap), (1, .int .i64 a), (10, .int .i64 ((i : Nat) : Int)), (11, .int .i64 ((u : Nat) : Int))]) (fun u Γ => Γ = [Dat 28 bb N cap d] ∧ u ≤ b - 1 ∧ i ≤ u + 1 ∧ scanDown (fun x => !ltInt x d[a]!) d (i) u = j) (fun u => u) (b - 1) ⟨rfl, rfl, int_eq (by first | rfl | omega | (dsimp only; omega)), int_eq (by first | rfl | omega | (dsimp only; omega)), trivial⟩ ⟨?_, by omega, by omega, hj.symm⟩ ?_
    · rfl
    rintro u Γ junk ⟨rfl, h1, h2, h4⟩
    try dsimp only at h1 h2 h4 ⊢
    by_cases hc : i ≤ u
    · obtain ⟨u, rfl⟩ : ∃ m, u = m + 1 := ⟨u - 1, by omega⟩
      repeat' (first | refine zck ?_ | refine run_drawR PP_mixed (by kernel_rfl) (by kernel_rfl) ?_ | (refine zap rfl ?_; first | refine reg_load_d 0 rfl rfl (by omega) ?_ | refine zaj rfl ?_ | refine zan rfl ?_ | refine zah [] (less_spec w0 _ _) rfl rfl rfl sub_nil rfl ?_ | refine zbi rfl rfl (by omega) ?_ | refine zby rfl ?_ | refine zbu rfl ?_ | refine zas rfl rfl (by omega) ?_) | refine zch ?_)
      refine run_cond rfl (fun hE => ?_) (fun hE => ?_)
      · repeat' (first | refine zcp (by kernel_rfl) ?_ | refine zcm ?_ | refine zcl ?_ | refine zcn ?_ | (refine zap rfl ?_; first | refine zan rfl ?_ | refine zan rfl ?_ | refine zav rfl rfl (by omega) ?_) | refine zch ?_)
        refine cut_end ⟨rfl, u, ⟨rfl, rfl, rfl, int_eq (by omega), trivial⟩, ⟨rfl, by omega, by omega, ?_⟩, by omega⟩
        rw [← h4, down_go hc (by simpa [ltInt] using hE)]
      · refine cut_exit rfl rfl ?_
        refine cut_end ⟨rfl, ⟨rfl, rfl, rfl, int_eq (congrArg Int.ofNat (by rw [← h4, down_stop (fun _ _ => by simpa [ltInt] using hE)])), trivial⟩, rfl⟩
    · repeat' (first | refine zck ?_ | refine run_drawR PP_mixed (by kernel_rfl) (by kernel_rfl) ?_ | (refine zap rfl ?_; first | refine zak rfl ?_ | refine zan rfl ?_ | refine zbj rfl rfl (by omega) ?_ | refine zbv rfl ?_) | refine zch ?_ | refine zcj rfl ?_)
      refine cut_exit rfl rfl ?_
      refine cut_end ⟨rfl, ⟨rfl, rfl, rfl, int_eq (congrArg Int.ofNat (by rw [← h4, down_stop (fun _ h => absurd h hc)])), trivial⟩, rfl⟩
  by_cases hgt : j < i
  · repeat' (first | refine zck ?_ | refine zcp (by kernel_rfl) ?_ | refine run_drawR PP_mixed (by kernel_rfl) (by kernel_rfl) ?_ | (refine zap rfl ?_; first | refine reg_load_d 0 rfl rfl (by omega) ?_ | refine reg_store_d 0 rfl rfl rfl (by omega) rfl ?_ | refine zan rfl ?_ | refine zan rfl ?_ | refine zbk rfl rfl (by omega) ?_ | refine zas rfl rfl (by omega) ?_) | refine zch ?_ | refine zci rfl ?_)
    rw [part_gt hd hi hj hgt]
    exact ret_tmp2 rfl ⟨rfl, rfl⟩
  · rw [part_le hd hi hj hgt]
    replace hij := hij hgt
    obtain ⟨e, he⟩ : ∃ e, e = swp d i j := ⟨_, rfl⟩
    have hes : e.size = N := by rw [he, Go.Sort.size_swp]; exact hds
    repeat' (first | refine zck ?_ | refine zcp (by kernel_rfl) ?_ | refine run_drawR PP_mixed (by kernel_rfl) (by kernel_rfl) ?_ | refine zcm ?_ | refine zcl ?_ | (refine zap rfl ?_; first | refine reg_load_d 0 rfl rfl (by omega) ?_ | refine reg_store_d 0 rfl rfl rfl (by omega) rfl ?_ | refine zan rfl ?_ | refine zan rfl ?_ | refine zbl rfl rfl (by omega) ?_ | refine zau rfl rfl (by omega) ?_ | refine zav rfl rfl (by omega) ?_ | refine zas rfl rfl (by omega) ?_) | refine zch ?_ | refine zcj rfl ?_)
    refine run_loop (S := Nat × Nat × Array Int) (fun s => [(0, .slice (some ⟨bb, 0, none⟩) N cap), (1, .int .i64 a), (10, .int .i64 s.1), (11, .int .i64 s.2.1)])
      (fun s Γ => Γ = [Dat 28 bb N cap s.2.2] ∧ a < s.1 ∧ s.1 ≤ s.2.1 + 1 ∧ s.2.1 < b ∧ s.2.2.size = N ∧ partLoop ltInt a s.1 s.2.1 s.2.2 = partLoop ltInt a (i + 1) (j - 1) e)
      (fun s => s.2.1 + 1 - s.1) (i + 1, j - 1, e) ⟨rfl, rfl, int_eq (by first | rfl | omega | (dsimp only; omega)), int_eq (by first | rfl | omega | (dsimp only; omega)), trivial⟩ ⟨by rw [he]; rfl, by dsimp only; omega, by dsimp only; omega, by dsimp only; omega, hes, rfl⟩ ?_
    rw [← he]
    generalize partLoop ltInt a (i + 1) (j - 1) e = RR
    clear hi hj he hes hd hds hi1 hi2 hj1 hj2 hij hgt
    clear e i j d
    rintro ⟨i, j, d⟩ Γ junk ⟨rfl, g1, g2, g3, g4, g5⟩
    dsimp only at g1 g2 g3 g4 g5 ⊢
    obtain ⟨i2, hi⟩ : ∃ i2, i2 = scanUp (fun x => ltInt x d[a]!) d j i := ⟨_, rfl⟩
    obtain ⟨j2, hj⟩ : ∃ j2, j2 = scanDown (fun x => !ltInt x d[a]!) d i2 j := ⟨_, rfl⟩
    have hi1 : i ≤ i2 := by rw [hi]; exact Go.Sort.scanUp_ge _ _ _ _
    have hi2 : i2 ≤ j + 1 := by rw [hi]; exact (Go.Sort.scanUp_spec _ d j _ i rfl).2.1 (by omega)
    have hj1 : j2 ≤ j := by rw [hj]; exact Go.Sort.scanDown_le _ _ _ _
    have hj2 : i2 ≤ j2 + 1 := by rw [hj]; exact (Go.Sort.scanDown_spec _ d i2 j).2.1 hi2
    have hij : ¬ j2 < i2 → i2 < j2 := fun h => by
      rcases Nat.lt_or_ge i2 j2 with h1 | h1
      · exact h1
      · have e : j2 = i2 := by omega
        have p1 := (Go.Sort.scanUp_spec (fun x => ltInt x d[a]!) d (j) _ (i) rfl).2.2.2
        have p2 := (Go.Sort.scanDown_spec (fun x => !ltInt x d[a]!) d i2 (j)).2.2.2
        rw [← hi] at p1; rw [← hj] at p2
        have p3 := p1 (by omega); have p4 := p2 (by omega) (by omega)
        rw [e] at p4; (try dsimp only at p3 p4); simp [p3] at p4
    have hpe := Go.Sort.partLoop_eq ltInt a i j d
    rw [← hi, ← hj] at hpe
    refine zcl ?_
    repeat refine zck ?_
    refine run_bind_eq (l' := [(0, .slice (some ⟨bb, 0, none⟩) N cap), (1, .int .i64 a), (10, .int .i64 ((i2 : Nat) : Int)), (11, .int .i64 ((j : Nat) : Int))]) (Γ' := [Dat 28 bb N cap d]) ?_ (fun junk => ?_)
    · repeat' (first | refine zcl ?_ | (refine zap rfl ?_; first | refine zaj rfl ?_ | refine zak rfl ?_ | refine zal rfl ?_ | refine zam rfl rfl (fun _ => ?_) (fun _ => ?_)) | refine zch ?_)
      refine run_loop (S := Nat) (fun u => [(0, .slice (some ⟨bb, 0, none⟩) N cap), (1, .int .i64 a), (10, .int .i64 ((u : Nat) : Int)), (11, .int .i64 ((j : Nat) : Int))]) (fun u Γ => Γ = [Dat 28 bb N cap d] ∧ i ≤ u ∧ u ≤ j + 1 ∧ scanUp (fun x => ltInt x d[a]!) d (j) u = i2) (fun u => j + 1 - u) (i) ⟨rfl, rfl, int_eq (by first | rfl | omega | (dsimp only; omega)), int_eq (by first | rfl | omega | (dsimp only; omega)), trivial⟩ ⟨?_, by omega, by omega, hi.symm⟩ ?_
      · rfl
      rintro u Γ junk ⟨rfl, h1, h2, h4⟩
      try dsimp only at h1 h2 h4 ⊢
      by_cases hc : u ≤ j
      · repeat' (first | refine zck ?_ | refine run_drawR PP_mixed (by kernel_rfl) (by kernel_rfl) ?_ | (refine zap rfl ?_; first | refine reg_load_d 0 rfl rfl (by omega) ?_ | refine zaj rfl ?_ | refine zan rfl ?_ | refine zah [] (less_spec w0 _ _) rfl rfl rfl sub_nil rfl ?_ | refine zbi rfl rfl (by omega) ?_ | refine zbu rfl ?_ | refine zas rfl rfl (by omega) ?_) | refine zch ?_)
        refine run_cond rfl (fun hE => ?_) (fun hE => ?_)
        · repeat' (first | refine zcp (by kernel_rfl) ?_ | refine zcm ?_ | refine zcl ?_ | refine zcn ?_ | (refine zap rfl ?_; first | refine zan rfl ?_ | refine zan rfl ?_ | refine zau rfl rfl (by omega) ?_) | refine zch ?_)
          refine cut_end ⟨rfl, u + 1, ⟨rfl, rfl, int_eq (by omega), rfl, trivial⟩, ⟨rfl, by omega, by omega, ?_⟩, by omega⟩
          rw [← h4, up_go hc (by simpa [ltInt] using hE)]
        · refine cut_exit rfl rfl ?_
          refine cut_end ⟨rfl, ⟨rfl, rfl, int_eq (congrArg Int.ofNat (by rw [← h4, up_stop (fun _ => by simpa [ltInt] using hE)])), rfl, trivial⟩, rfl⟩
      · repeat' (first | refine zck ?_ | refine run_drawR PP_mixed (by kernel_rfl) (by kernel_rfl) ?_ | (refine zap rfl ?_; first | refine zak rfl ?_ | refine zan rfl ?_ | refine zbj rfl rfl (by omega) ?_ | refine zbv rfl ?_) | refine zch ?_ | refine zcj rfl ?_)
        refine cut_exit rfl rfl ?_
        refine cut_end ⟨rfl, ⟨rfl, rfl, int_eq (congrArg Int.ofNat (by rw [← h4, up_stop (fun h => absurd h hc)])), rfl, trivial⟩, rfl⟩
    repeat refine zck ?_
    refine run_bind_eq (l' := [(0, .slice (some ⟨bb, 0, none⟩) N cap), (1, .int .i64 a), (10, .int .i64 ((i2 : Nat) : Int)), (11, .int .i64 ((j2 : Nat) : Int))]) (Γ' := [Dat 28 bb N cap d]) ?_ (fun junk => ?_)
    · repeat' (first | refine zcl ?_ | (refine zap rfl ?_; first | refine zaj rfl ?_ | refine zak rfl ?_ | refine zal rfl ?_ | refine zam rfl rfl (fun _ => ?_) (fun _ => ?_)) | refine zch ?_)
      refine run_loop (S := Nat) (fun u => [(0, .slice (some ⟨bb, 0, none⟩) N cap), (1, .int .i64 a), (10, .int .i64 ((i2 : Nat) : Int)), (11, .int .i64 ((u : Nat) : Int))]) (fun u Γ => Γ = [Dat 28 bb N cap d] ∧ u ≤ j ∧ i2 ≤ u + 1 ∧ scanDown (fun x => !ltInt x d[a]!) d (i2) u = j2) (fun u => u) (j) ⟨rfl, rfl, int_eq (by first | rfl | omega | (dsimp only; omega)), int_eq (by first | rfl | omega | (dsimp only; omega)), trivial⟩ ⟨?_, by omega, by omega, hj.symm⟩ ?_
      · rfl
      rintro u Γ junk ⟨rfl, h1, h2, h4⟩
      try dsimp only at h1 h2 h4 ⊢
      by_cases hc : i2 ≤ u
      · obtain ⟨u, rfl⟩ : ∃ m, u = m + 1 := ⟨u - 1, by omega⟩
        repeat' (first | refine zck ?_ | refine run_drawR PP_mixed (by kernel_rfl) (by kernel_rfl) ?_ | (refine zap rfl ?_; first | refine reg_load_d 0 rfl rfl (by omega) ?_ | refine zaj rfl ?_ | refine zan rfl ?_ | refine zah [] (less_spec w0 _ _) rfl rfl rfl sub_nil rfl ?_ | refine zbi rfl rfl (by omega) ?_ | refine zby rfl ?_ | refine zbu rfl ?_ | refine zas rfl rfl (by omega) ?_) | refine zch ?_)
        refine run_cond rfl (fun hE => ?_) (fun hE => ?_)
        · repeat' (first | refine zcp (by kernel_rfl) ?_ | refine zcm ?_ | refine zcl ?_ | refine zcn ?_ | (refine zap rfl ?_; first | refine zan rfl ?_ | refine zan rfl ?_ | refine zav rfl rfl (by omega) ?_) | refine zch ?_)
          refine cut_end ⟨rfl, u, ⟨rfl, rfl, rfl, int_eq (by omega), trivial⟩, ⟨rfl, by omega, by omega, ?_⟩, by omega⟩
          rw [← h4, down_go hc (by simpa [ltInt] using hE)]
        · refine cut_exit rfl rfl ?_
          refine cut_end ⟨rfl, ⟨rfl, rfl, rfl, int_eq (congrArg Int.ofNat (by rw [← h4, down_stop (fun _ _ => by simpa [ltInt] using hE)])), trivial⟩, rfl⟩
      · repeat' (first | refine zck ?_ | refine run_drawR PP_mixed (by kernel_rfl) (by kernel_rfl) ?_ | (refine zap rfl ?_; first | refine zak rfl ?_ | refine zan rfl ?_ | refine zbj rfl rfl (by omega) ?_ | refine zbv rfl ?_) | refine zch ?_ | refine zcj rfl ?_)
        refine cut_exit rfl rfl ?_
        refine cut_end ⟨rfl, ⟨rfl, rfl, rfl, int_eq (congrArg Int.ofNat (by rw [← h4, down_stop (fun _ h => absurd h hc)])), trivial⟩, rfl⟩
    by_cases hgt : j2 < i2
    · repeat' (first | refine zck ?_ | refine zcp (by kernel_rfl) ?_ | (refine zap rfl ?_; first | refine zan rfl ?_ | refine zbk rfl rfl (by omega) ?_) | refine zch ?_ | refine zci rfl ?_)
      refine cut_exit rfl rfl ?_
      repeat' (first | refine zck ?_ | refine zcp (by kernel_rfl) ?_ | refine run_drawR PP_mixed (by kernel_rfl) (by kernel_rfl) ?_ | (refine zap rfl ?_; first | refine reg_load_d 0 rfl rfl (by omega) ?_ | refine reg_store_d 0 rfl rfl rfl (by omega) rfl ?_ | refine zan rfl ?_ | refine zan rfl ?_ | refine zas rfl rfl (by omega) ?_) | refine zch ?_)
      rw [if_pos hgt] at hpe
      rw [← g5, hpe]
      exact ret_tmp2 rfl ⟨rfl, rfl⟩
    · replace hij := hij hgt
      repeat' (first | refine zck ?_ | refine zcp (by kernel_rfl) ?_ | refine run_drawR PP_mixed (by kernel_rfl) (by kernel_rfl) ?_ | refine zcm ?_ | refine zcn ?_ | (refine zap rfl ?_; first | refine reg_load_d 0 rfl rfl (by omega) ?_ | refine reg_store_d 0 rfl rfl rfl (by omega) rfl ?_ | refine zan rfl ?_ | refine zan rfl ?_ | refine zbl rfl rfl (by omega) ?_ | refine zau rfl rfl (by omega) ?_ | refine zav rfl rfl (by omega) ?_ | refine zas rfl rfl (by omega) ?_) | refine zch ?_ | refine zcj rfl ?_)
      refine cut_end ⟨rfl, (i2 + 1, j2 - 1, swp d i2 j2), ⟨rfl, rfl, int_eq (by first | rfl | omega | (dsimp only; omega)), int_eq (by first | rfl | omega | (dsimp only; omega)), trivial⟩, ⟨rfl, by dsimp only; omega, by dsimp only; omega, by dsimp only; omega, ?_, ?_⟩, by dsimp only; omega⟩
      · rw [Go.Sort.size_swp]; exact g4
      · rw [if_neg hgt] at hpe
        rw [← g5, hpe]
end Go.Proofs.YtloekplbhknepaaGreat

namespace Go.Proofs.YtloekplbhknepaaGreat
open Go.Vc
open Go.Sort (ltInt swp scanUp scanDown partEqLoop partitionEqual)
set_option maxHeartbeats 4000000
theorem partEq_spec (w0 : World) (bb N cap : Nat) (D : Array Int) (a b pivot : Nat) (hN : N ≤ 1152921504606846975) (hap : a ≤ pivot) (hpb : pivot < b) (hb : b ≤ N) (hD : D.size = N) :
    FnE PP w0 [] 130 [.slice (some ⟨bb, 0, none⟩) N cap, .int .i64 a, .int .i64 b, .int .i64 pivot] [Dat 28 bb N cap D]
      (.int .i64 ((partitionEqual ltInt D a b pivot).1 : Nat)) [Dat 28 bb N cap (partitionEqual ltInt D a b pivot).2] := by
  refine fn_of_run en130 fn130 rfl rfl rfl ?_
  repeat' (first | refine zck ?_ | refine zcp (by kernel_rfl) ?_ | refine run_drawR PP_mixed (by kernel_rfl) (by kernel_rfl) ?_ | refine zcl ?_ | (refine zap rfl ?_; first | refine reg_load_d 0 rfl rfl (by omega) ?_ | refine reg_store_d 0 rfl rfl rfl (by omega) rfl ?_ | refine zan rfl ?_ | refine zan rfl ?_ | refine zau rfl rfl (by omega) ?_ | refine zav rfl rfl (by omega) ?_ | refine zas rfl rfl (by omega) ?_) | refine zch ?_)
  refine run_loop (S := Nat × Nat × Array Int) (fun s => [(0, .slice (some ⟨bb, 0, none⟩) N cap), (1, .int .i64 a), (9, .int .i64 s.1), (10, .int .i64 s.2.1)])
    (fun s Γ => Γ = [Dat 28 bb N cap s.2.2] ∧ a < s.1 ∧ s.1 ≤ s.2.1 + 1 ∧ s.2.1 < b ∧ s.2.2.size = N ∧ partEqLoop ltInt a s.1 s.2.1 s.2.2 = partitionEqual ltInt D a b pivot)
    (fun s => s.2.1 + 1 - s.1) (a + 1, b - 1, swp D a pivot) ⟨rfl, rfl, int_eq (by first | rfl | omega | (dsimp only; omega)), int_eq (by first | rfl | omega | (dsimp only; omega)), trivial⟩ ⟨rfl, by dsimp only; omega, by dsimp only; omega, by dsimp only; omega, by rw [Go.Sort.size_swp]; exact hD, rfl⟩ ?_
  generalize partitionEqual ltInt D a b pivot = RR
  rintro ⟨i, j, d⟩ Γ junk ⟨rfl, g1, g2, g3, g4, g5⟩
  dsimp only at g1 g2 g3 g4 g5 ⊢
  obtain ⟨i2, hi⟩ : ∃ i2, i2 = scanUp (fun x => !ltInt d[a]! x) d j i := ⟨_, rfl⟩
  obtain ⟨j2, hj⟩ : ∃ j2, j2 = scanDown (fun x => ltInt d[a]! x) d i2 j := ⟨_, rfl⟩
  have hi1 : i ≤ i2 := by rw [hi]; exact Go.Sort.scanUp_ge _ _ _ _
  have hi2 : i2 ≤ j + 1 := by rw [hi]; exact (Go.Sort.scanUp_spec _ d j _ i rfl).2.1 (by omega)
  have hj1 : j2 ≤ j := by rw [hj]; exact Go.Sort.scanDown_le _ _ _ _
  have hj2 : i2 ≤ j2 + 1 := by rw [hj]; exact (Go.Sort.scanDown_spec _ d i2 j).2.1 hi2
  have hij : ¬ j2 < i2 → i2 < j2 := fun h => by
    rcases Nat.lt_or_ge i2 j2 with h1 | h1
    · exact h1
    · have e : j2 = i2 := by omega
      have p1 := (Go.Sort.scanUp_spec (fun x => !ltInt d[a]! x) d j _ i rfl).2.2.2
      have p2 := (Go.Sort.scanDown_spec (fun x => ltInt d[a]! x) d i2 j).2.2.2
      rw [← hi] at p1; rw [← hj] at p2
      have p3 := p1 (by omega); have p4 := p2 (by omega) (by omega)
      rw [e] at p4; (try dsimp only at p3 p4); simp [p4] at p3
  have hpe := Go.Sort.partEqLoop_eq ltInt a i j d
  rw [← hi, ← hj] at hpe
  refine zcl ?_
  repeat refine zck ?_
  refine run_bind_eq (l' := [(0, .slice (some ⟨bb, 0, none⟩) N cap), (1, .int .i64 a), (9, .int .i64 ((i2 : Nat) : Int)), (10, .int .i64 ((j : Nat) : Int))]) (Γ' := [Dat 28 bb N cap d]) ?_ (fun junk => ?_)
  · repeat' (first | refine zcl ?_ | (refine zap rfl ?_; first | refine zaj rfl ?_ | refine zak rfl ?_ | refine zal rfl ?_ | refine zam rfl rfl (fun _ => ?_) (fun _ => ?_)) | refine zch ?_)
    refine run_loop (S := Nat) (fun u => [(0, .slice (some ⟨bb, 0, none⟩) N cap), (1, .int .i64 a), (9, .int .i64 ((u : Nat) : Int)), (10, .int .i64 ((j : Nat) : Int))]) (fun u Γ => Γ = [Dat 28 bb N cap d] ∧ i ≤ u ∧ u ≤ j + 1 ∧ scanUp (fun x => !ltInt d[a]! x) d (j) u = i2) (fun u => j + 1 - u) (i) ⟨rfl, rfl, int_eq (by first | rfl | omega | (dsimp only; omega)), int_eq (by first | rfl | omega | (dsimp only; omega)), trivial⟩ ⟨?_, by omega, by omega, hi.symm⟩ ?_
    · rfl
    rintro u Γ junk ⟨rfl, h1, h2, h4⟩
    try dsimp only at h1 h2 h4 ⊢
    by_cases hc : u ≤ j
    · repeat' (first | refine zck ?_ | refine run_drawR PP_mixed (by kernel_rfl) (by kernel_rfl) ?_ | (refine zap rfl ?_; first | refine reg_load_d 0 rfl rfl (by omega) ?_ | refine zaj rfl ?_ | refine zan rfl ?_ | refine zah [] (less_spec w0 _ _) rfl rfl rfl sub_nil rfl ?_ | refine zbi rfl rfl (by omega) ?_ | refine zby rfl ?_ | refine zbu rfl ?_ | refine zas rfl rfl (by omega) ?_) | refine zch ?_)
      refine run_cond rfl (fun hE => ?_) (fun hE => ?_)
      · repeat' (first | refine zcp (by kernel_rfl) ?_ | refine zcm ?_ | refine zcl ?_ | refine zcn ?_ | (refine zap rfl ?_; first | refine zan rfl ?_ | refine zan rfl ?_ | refine zau rfl rfl (by omega) ?_) | refine zch ?_)
        refine cut_end ⟨rfl, u + 1, ⟨rfl, rfl, int_eq (by omega), rfl, trivial⟩, ⟨rfl, by omega, by omega, ?_⟩, by omega⟩
        rw [← h4, up_go hc (by simpa [ltInt] using hE)]
      · refine cut_exit rfl rfl ?_
        refine cut_end ⟨rfl, ⟨rfl, rfl, int_eq (congrArg Int.ofNat (by rw [← h4, up_stop (fun _ => by simpa [ltInt] using hE)])), rfl, trivial⟩, rfl⟩
    · repeat' (first | refine zck ?_ | refine run_drawR PP_mixed (by kernel_rfl) (by kernel_rfl) ?_ | (refine zap rfl ?_; first | refine zak rfl ?_ | refine zan rfl ?_ | refine zbj rfl rfl (by omega) ?_ | refine zbv rfl ?_) | refine zch ?_ | refine zcj rfl ?_)
      refine cut_exit rfl rfl ?_
      refine cut_end ⟨rfl, ⟨rfl, rfl, int_eq (congrArg Int.ofNat (by rw [← h4, up_stop (fun h => absurd h hc)])), rfl, trivial⟩, rfl⟩
  repeat refine zck ?_
  refine run_bind_eq (l' := [(0, .slice (some ⟨bb, 0, none⟩) N cap), (1, .int .i64 a), (9, .int .i64 ((i2 : Nat) : Int)), (10, .int .i64 ((j2 : Nat) : Int))]) (Γ' := [Dat 28 bb N cap d]) ?_ (fun junk => ?_)
  · repeat' (first | refine zcl ?_ | (refine zap rfl ?_; first | refine zaj rfl ?_ | refine zak rfl ?_ | refine zal rfl ?_ | refine zam rfl rfl (fun _ => ?_) (fun _ => ?_)) | refine zch ?_)
    refine run_loop (S := Nat) (fun u => [(0, .slice (some ⟨bb, 0, none⟩) N cap), (1, .int .i64 a), (9, .int .i64 ((i2 : Nat) : Int)), (10, .int .i64 ((u : Nat) : Int))]) (fun u Γ => Γ = [Dat 28 bb N cap d] ∧ u ≤ j ∧ i2 ≤ u + 1 ∧ scanDown (fun x => ltInt d[a]! x) d (i2) u = j2) (fun u => u) (j) ⟨rfl, rfl, int_eq (by first | rfl | omega | (dsimp only; omega)), int_eq (by first | rfl | omega | (dsimp only; omega)), trivial⟩ ⟨?_, by omega, by omega, hj.symm⟩ ?_
    · rfl
    rintro u Γ junk ⟨rfl, h1, h2, h4⟩
    try dsimp only at h1 h2 h4 ⊢
    by_cases hc : i2 ≤ u
    · obtain ⟨u, rfl⟩ : ∃ m, u = m + 1 := ⟨u - 1, by omega⟩
      repeat' (first | refine zck ?_ | refine run_drawR PP_mixed (by kernel_rfl) (by kernel_rfl) ?_ | (refine zap rfl ?_; first | refine reg_load_d 0 rfl rfl (by omega) ?_ | refine zaj rfl ?_ | refine zan rfl ?_ | refine zah [] (less_spec w0 _ _) rfl rfl rfl sub_nil rfl ?_ | refine zbi rfl rfl (by omega) ?_ | refine zbu rfl ?_ | refine zas rfl rfl (by omega) ?_) | refine zch ?_)
      refine run_cond rfl (fun hE => ?_) (fun hE => ?_)
      · repeat' (first | refine zcp (by kernel_rfl) ?_ | refine zcm ?_ | refine zcl ?_ | refine zcn ?_ | (refine zap rfl ?_; first | refine zan rfl ?_ | refine zan rfl ?_ | refine zav rfl rfl (by omega) ?_) | refine zch ?_)
        refine cut_end ⟨rfl, u, ⟨rfl, rfl, rfl, int_eq (by omega), trivial⟩, ⟨rfl, by omega, by omega, ?_⟩, by omega⟩
        rw [← h4, down_go hc (by simpa [ltInt] using hE)]
      · refine cut_exit rfl rfl ?_
        refine cut_end ⟨rfl, ⟨rfl, rfl, rfl, int_eq (congrArg Int.ofNat (by rw [← h4, down_stop (fun _ _ => by simpa [ltInt] using hE)])), trivial⟩, rfl⟩
    · repeat' (first | refine zck ?_ | refine run_drawR PP_mixed (by kernel_rfl) (by kernel_rfl) ?_ | (refine zap rfl ?_; first | refine zak rfl ?_ | refine zan rfl ?_ | refine zbj rfl rfl (by omega) ?_ | refine zbv rfl ?_) | refine zch ?_ | refine zcj rfl ?_)
      refine cut_exit rfl rfl ?_
      refine cut_end ⟨rfl, ⟨rfl, rfl, rfl, int_eq (congrArg Int.ofNat (by rw [← h4, down_stop (fun _ h => absurd h hc)])), trivial⟩, rfl⟩
  by_cases hgt : j2 < i2
  · repeat' (first | refine zck ?_ | refine zcp (by kernel_rfl) ?_ | (refine zap rfl ?_; first | refine zan rfl ?_ | refine zbk rfl rfl (by omega) ?_) | refine zch ?_ | refine zci rfl ?_)
    refine cut_exit rfl rfl ?_
    repeat' (first | refine zck ?_ | refine zcp (by kernel_rfl) ?_ | (refine zap rfl ?_; first | refine zan rfl ?_ | refine zan rfl ?_) | refine zch ?_)
    rw [if_pos hgt] at hpe
    rw [← g5, hpe]
    exact ret_tmp1 rfl ⟨rfl, rfl⟩
  · replace hij := hij hgt
    repeat' (first | refine zck ?_ | refine zcp (by kernel_rfl) ?_ | refine run_drawR PP_mixed (by kernel_rfl) (by kernel_rfl) ?_ | refine zcm ?_ | refine zcn ?_ | (refine zap rfl ?_; first | refine reg_load_d 0 rfl rfl (by omega) ?_ | refine reg_store_d 0 rfl rfl rfl (by omega) rfl ?_ | refine zan rfl ?_ | refine zan rfl ?_ | refine zbl rfl rfl (by omega) ?_ | refine zau rfl rfl (by omega) ?_ | refine zav rfl rfl (by omega) ?_ | refine zas rfl rfl (by omega) ?_) | refine zch ?_ | refine zcj rfl ?_)
    refine cut_end ⟨rfl, (i2 + 1, j2 - 1, swp d i2 j2), ⟨rfl, rfl, int_eq (by first | rfl | omega | (dsimp only; omega)), int_eq (by first | rfl | omega | (dsimp only; omega)), trivial⟩, ⟨rfl, by dsimp only; omega, by dsimp only; omega, by dsimp only; omega, ?_, ?_⟩, by dsimp only; omega⟩
    · rw [Go.Sort.size_swp]; exact g4
    · rw [if_neg hgt] at hpe
      rw [← g5, hpe]
end Go.Proofs.YtloekplbhknepaaGreat

namespace Go.Proofs.YtloekplbhknepaaGreat
open Go.Vc
open Go.Sort (ltInt swp scanSorted shiftDown shiftUp partialIns partialInsertionSort)
theorem sd_go {j : Nat} {d : Array Int} (hl : ltInt d[j + 1]! d[j]! = true) : shiftDown ltInt (j + 1) d = shiftDown ltInt j (swp d (j + 1) j) := by
  rw [shiftDown]; simp [hl]
theorem sd_stop {j : Nat} {d : Array Int} (hl : ltInt d[j + 1]! d[j]! = false) : shiftDown ltInt (j + 1) d = d := by
  rw [shiftDown]; simp [hl]
theorem su_go {b j : Nat} {d : Array Int} (h : j < b) (hl : ltInt d[j]! d[j - 1]! = true) : shiftUp ltInt b j d = shiftUp ltInt b (j + 1) (swp d j (j - 1)) := by
  rw [shiftUp, if_pos h, if_neg (by simp [hl])]
theorem su_stop {b j : Nat} {d : Array Int} (hl : j < b → ltInt d[j]! d[j - 1]! = false) : shiftUp ltInt b j d = d := by
  rw [shiftUp]
  split
  · rename_i h; rw [if_pos (by simp [hl h])]
  · rfl
theorem ss_go {b i : Nat} {d : Array Int} (h : i < b) (hl : ltInt d[i]! d[i - 1]! = false) : scanSorted ltInt d b i = scanSorted ltInt d b (i + 1) := by
  rw [scanSorted, if_pos (by simp only [hl, Bool.not_false, Bool.and_true, decide_eq_true_eq]; exact h)]
theorem ss_stop {b i : Nat} {d : Array Int} (hl : i < b → ltInt d[i]! d[i - 1]! = true) : scanSorted ltInt d b i = i := by
  rw [scanSorted, if_neg]
  simp only [Bool.and_eq_true, decide_eq_true_eq, not_and, Bool.not_eq_true]
  intro h; rw [hl h]; rfl
theorem ss_range {b : Nat} {d : Array Int} : ∀ (m i : Nat), b - i = m → i ≤ b → i ≤ scanSorted ltInt d b i ∧ scanSorted ltInt d b i ≤ b := by
  intro m
  induction m with
  | zero => intro i h1 h2; rw [ss_stop (fun h => by omega)]; omega
  | succ m ih =>
    intro i h1 h2
    cases hl : ltInt d[i]! d[i - 1]! with
    | true => rw [ss_stop (fun _ => hl)]; omega
    | false =>
      rw [ss_go (by omega) hl]
      have := ih (i + 1) (by omega) (by omega)
      omega
theorem pi_true {a b s i : Nat} {d : Array Int} (h : scanSorted ltInt d b i = b) : partialIns ltInt a b (s + 1) i d = (d, true) := by
  rw [partialIns]; simp only [h, if_true]
theorem pi_small {a b s i : Nat} {d : Array Int} (h : scanSorted ltInt d b i ≠ b) (h5 : b - a < 50) : partialIns ltInt a b (s + 1) i d = (d, false) := by
  rw [partialIns]; simp only [h, h5, if_true, if_false]
theorem pi_go {a b s i j : Nat} {d : Array Int} (hj : j = scanSorted ltInt d b i) (h : j ≠ b) (h5 : ¬ b - a < 50) : partialIns ltInt a b (s + 1) i d =
    partialIns ltInt a b s j (if b - j ≥ 2 then shiftUp ltInt b (j + 1) (if j - a ≥ 2 then shiftDown ltInt (j - 1) (swp d j (j - 1)) else swp d j (j - 1)) else (if j - a ≥ 2 then shiftDown ltInt (j - 1) (swp d j (j - 1)) else swp d j (j - 1))) := by
  rw [partialIns]; simp only [← hj, h, h5, if_false]
set_option maxHeartbeats 4000000
theorem partial_spec (w0 : World) (bb N cap : Nat) (D : Array Int) (a b : Nat) (hN : N ≤ 1152921504606846975) (hab : a < b) (hb : b ≤ N) :
    FnE PP w0 [] 128 [.slice (some ⟨bb, 0, none⟩) N cap, .int .i64 a, .int .i64 b] [Dat 28 bb N cap D]
      (.bool (partialInsertionSort ltInt D a b).2) [Dat 28 bb N cap (partialInsertionSort ltInt D a b).1] := by
  refine fn_of_run en128 fn128 rfl rfl rfl ?_
  repeat' (first | refine zck ?_ | refine zcp (by kernel_rfl) ?_ | refine zcl ?_ | (refine zap rfl ?_; first | refine zan rfl ?_ | refine zan rfl ?_ | refine zau rfl rfl (by omega) ?_) | refine zch ?_)
  refine run_loop (S := Nat × Nat × Array Int) (fun s => [(0, .slice (some ⟨bb, 0, none⟩) N cap), (1, .int .i64 a), (2, .int .i64 b), (6, .bool false), (7, .int .i64 s.2.1), (8, .int .i64 (5 - (s.1 : Int)))])
    (fun s Γ => Γ = [Dat 28 bb N cap s.2.2] ∧ s.1 ≤ 5 ∧ a < s.2.1 ∧ s.2.1 ≤ b ∧ partialIns ltInt a b s.1 s.2.1 s.2.2 = partialInsertionSort ltInt D a b)
    (fun s => s.1) (5, a + 1, D) ⟨rfl, rfl, rfl, rfl, int_eq (by first | rfl | omega | (dsimp only; omega)), rfl, trivial⟩ ⟨rfl, by dsimp only; omega, by dsimp only; omega, by dsimp only; omega, rfl⟩ ?_
  generalize partialInsertionSort ltInt D a b = RR
  rintro ⟨s, i, d⟩ Γ junk ⟨rfl, g1, g2, g3, g5⟩
  dsimp only at g1 g2 g3 g5 ⊢
  by_cases hs : 0 < s
  · obtain ⟨s, rfl⟩ : ∃ m, s = m + 1 := ⟨s - 1, by omega⟩
    repeat (first | refine zck ?_ | refine zcl ?_ | refine zcm ?_ | refine zcn ?_)
    first | refine zcp (by kernel_rfl) ?_ | refine run_drawR PP_mixed (by kernel_rfl) (by kernel_rfl) ?_
    repeat' (refine zap rfl ?_; first | refine zan rfl ?_ | refine zbg rfl rfl (by omega) ?_)
    all_goals refine zch ?_
    all_goals repeat (refine zck ?_)
    refine zci rfl ?_
    repeat (first | refine zcm ?_ | refine zck ?_)
    refine zcl ?_
    repeat refine zck ?_
    obtain ⟨j, hj⟩ : ∃ j, j = scanSorted ltInt d b i := ⟨_, rfl⟩
    have hjr : i ≤ j ∧ j ≤ b := by rw [hj]; exact ss_range _ i rfl g3
    refine run_bind_eq (l' := [(0, .slice (some ⟨bb, 0, none⟩) N cap), (1, .int .i64 a), (2, .int .i64 b), (6, .bool false), (7, .int .i64 j), (8, .int .i64 (5 - ((s + 1 : Nat) : Int)))]) (Γ' := [Dat 28 bb N cap d]) ?_ (fun junk => ?_)
    · repeat' (first | refine zcl ?_ | (refine zap rfl ?_; first | refine zaj rfl ?_ | refine zak rfl ?_ | refine zal rfl ?_ | refine zam rfl rfl (fun _ => ?_) (fun _ => ?_)) | refine zch ?_)
      refine run_loop (S := Nat) (fun u => [(0, .slice (some ⟨bb, 0, none⟩) N cap), (1, .int .i64 a), (2, .int .i64 b), (6, .bool false), (7, .int .i64 u), (8, .int .i64 (5 - ((s + 1 : Nat) : Int)))])
        (fun u Γ => Γ = [Dat 28 bb N cap d] ∧ a < u ∧ u ≤ b ∧ scanSorted ltInt d b u = j) (fun u => b - u) i ⟨rfl, rfl, rfl, rfl, rfl, rfl, trivial⟩ ⟨rfl, by omega, by omega, hj.symm⟩ ?_
      rintro u Γ junk ⟨rfl, h1, h2, h4⟩
      have e1 : ((u : Nat) : Int).toNat = u := by omega
      have e2 : (((u : Nat) : Int) - 1).toNat = u - 1 := by omega
      by_cases hc : u < b
      · repeat' (first | refine zck ?_ | refine run_drawR PP_mixed (by kernel_rfl) (by kernel_rfl) ?_ | (refine zap rfl ?_; first | refine reg_load_d 0 rfl rfl (by omega) ?_ | refine zaj rfl ?_ | refine zan rfl ?_ | refine zah [] (less_spec w0 _ _) rfl rfl rfl sub_nil rfl ?_ | refine zbg rfl rfl (by omega) ?_ | refine zav rfl rfl (by omega) ?_ | refine zby rfl ?_ | refine zbu rfl ?_ | refine zas rfl rfl (by omega) ?_) | refine zch ?_)
        refine run_cond rfl (fun hE => ?_) (fun hE => ?_)
        · rw [e1, e2] at hE
          repeat' (first | refine zcp (by kernel_rfl) ?_ | refine zcm ?_ | refine zcl ?_ | refine zcn ?_ | (refine zap rfl ?_; first | refine zan rfl ?_ | refine zan rfl ?_ | refine zau rfl rfl (by omega) ?_) | refine zch ?_)
          refine cut_end ⟨rfl, u + 1, ⟨rfl, rfl, rfl, rfl, int_eq (by first | rfl | omega | (dsimp only; omega)), rfl, trivial⟩, ⟨rfl, by omega, by omega, ?_⟩, by omega⟩
          rw [← h4, ss_go hc (by simpa [ltInt] using hE)]
        · rw [e1, e2] at hE
          refine cut_exit rfl rfl ?_
          refine cut_end ⟨rfl, ⟨rfl, rfl, rfl, rfl, int_eq (congrArg Int.ofNat (by rw [← h4, ss_stop (fun _ => by simpa [ltInt] using hE)])), rfl, trivial⟩, rfl⟩
      · repeat' (first | refine zck ?_ | refine run_drawR PP_mixed (by kernel_rfl) (by kernel_rfl) ?_ | (refine zap rfl ?_; first | refine zak rfl ?_ | refine zan rfl ?_ | refine zbh rfl rfl (by omega) ?_ | refine zbv rfl ?_) | refine zch ?_ | refine zcj rfl ?_)
        refine cut_exit rfl rfl ?_
        refine cut_end ⟨rfl, ⟨rfl, rfl, rfl, rfl, int_eq (congrArg Int.ofNat (by rw [← h4, ss_stop (fun h => absurd h hc)])), rfl, trivial⟩, rfl⟩
    by_cases hjb : j = b
    · repeat' (first | refine zck ?_ | refine zcp (by kernel_rfl) ?_ | (refine zap rfl ?_; first | refine zan rfl ?_ | refine zan rfl ?_ | refine zbc rfl rfl (by omega) ?_) | refine zch ?_ | refine zci rfl ?_)
      refine qret1 (fun _ _ h => h) rfl ⟨?_, (show [_] = [_] from ?_)⟩
      · rw [← g5, pi_true (by omega)]; rfl
      · rw [← g5, pi_true (by omega)]
    · by_cases h50 : b - a < 50
      · repeat' (first | refine zck ?_ | refine zcp (by kernel_rfl) ?_ | refine zcm ?_ | (refine zap rfl ?_; first | refine zan rfl ?_ | refine zan rfl ?_ | refine zbd rfl rfl (by omega) ?_ | refine zbg rfl rfl (by omega) ?_ | refine zav rfl rfl (by omega) ?_) | refine zch ?_ | refine zci rfl ?_ | refine zcj rfl ?_)
        refine qret1 (fun _ _ h => h) rfl ⟨?_, (show [_] = [_] from ?_)⟩
        · rw [← g5, pi_small (by omega) h50]; rfl
        · rw [← g5, pi_small (by omega) h50]
      · rw [pi_go hj hjb h50] at g5
        have e1 : ((j : Nat) : Int).toNat = j := by omega
        have e2 : (((j : Nat) : Int) - 1).toNat = j - 1 := by omega
        obtain ⟨d1, hd1⟩ : ∃ d1, d1 = swp d j (j - 1) := ⟨_, rfl⟩
        obtain ⟨d2, hd2⟩ : ∃ d2, d2 = if j - a ≥ 2 then shiftDown ltInt (j - 1) d1 else d1 := ⟨_, rfl⟩
        obtain ⟨d3, hd3⟩ : ∃ d3, d3 = if b - j ≥ 2 then shiftUp ltInt b (j + 1) d2 else d2 := ⟨_, rfl⟩
        rw [← hd1, ← hd2, ← hd3] at g5
        repeat (first | refine zck ?_ | refine zcl ?_ | refine zcm ?_ | refine zcn ?_)
        first | refine zcp (by kernel_rfl) ?_ | refine run_drawR PP_mixed (by kernel_rfl) (by kernel_rfl) ?_
        repeat' (refine zap rfl ?_; first | refine zan rfl ?_ | refine zbd rfl rfl (by omega) ?_)
        all_goals refine zch ?_
        all_goals repeat (first | refine zck ?_ | refine zcl ?_ | refine zcm ?_ | refine zcn ?_)
        refine zcj rfl ?_
        refine zcm ?_
        repeat (first | refine zck ?_ | refine zcl ?_ | refine zcm ?_ | refine zcn ?_)
        first | refine zcp (by kernel_rfl) ?_ | refine run_drawR PP_mixed (by kernel_rfl) (by kernel_rfl) ?_
        repeat' (refine zap rfl ?_; first | refine zan rfl ?_ | refine zbh rfl rfl (by omega) ?_ | refine zav rfl rfl (by omega) ?_)
        all_goals refine zch ?_
        all_goals repeat (first | refine zck ?_ | refine zcl ?_ | refine zcm ?_ | refine zcn ?_)
        refine zcj rfl ?_
        refine zcm ?_
        repeat (first | refine zck ?_ | refine zcl ?_ | refine zcm ?_ | refine zcn ?_)
        first | refine zcp (by kernel_rfl) ?_ | refine run_drawR PP_mixed (by kernel_rfl) (by kernel_rfl) ?_
        repeat' (refine zap rfl ?_; first | refine reg_load_d 0 rfl rfl (by omega) ?_ | refine reg_store_d 0 rfl rfl rfl (by omega) rfl ?_ | refine zan rfl ?_ | refine zav rfl rfl (by omega) ?_ | refine zas rfl rfl (by omega) ?_)
        all_goals refine zch ?_
        all_goals repeat (first | refine zck ?_ | refine zcl ?_ | refine zcm ?_ | refine zcn ?_)
        repeat (first | refine zck ?_ | refine zcl ?_ | refine zcm ?_ | refine zcn ?_)
        first | refine zcp (by kernel_rfl) ?_ | refine run_drawR PP_mixed (by kernel_rfl) (by kernel_rfl) ?_
        repeat' (refine zap rfl ?_; first | refine zan rfl ?_ | refine zav rfl rfl (by omega) ?_ | refine zbt rfl rfl ?_)
        all_goals refine zch ?_
        all_goals repeat (first | refine zck ?_ | refine zcl ?_ | refine zcm ?_ | refine zcn ?_)
        refine run_bind_eq (l' := [(0, .slice (some ⟨bb, 0, none⟩) N cap), (1, .int .i64 a), (2, .int .i64 b), (6, .bool false), (7, .int .i64 j), (8, .int .i64 (5 - ((s + 1 : Nat) : Int)))]) (Γ' := [Dat 28 bb N cap d2]) ?_ (fun junk => ?_)
        · refine run_cond rfl (fun hc => ?_) (fun hc => ?_)
          · rw [if_pos (by omega)] at hd2
            repeat' (first | refine zck ?_ | refine zcp (by kernel_rfl) ?_ | refine zcl ?_ | (refine zap rfl ?_; first | refine zan rfl ?_ | refine zan rfl ?_ | refine zav rfl rfl (by omega) ?_) | refine zch ?_)
            refine run_loop (S := Nat × Array Int) (fun s' => [(0, .slice (some ⟨bb, 0, none⟩) N cap), (1, .int .i64 a), (2, .int .i64 b), (6, .bool false), (7, .int .i64 j), (8, .int .i64 (5 - ((s + 1 : Nat) : Int))), (9, .int .i64 s'.1)])
              (fun s' Γ => Γ = [Dat 28 bb N cap s'.2] ∧ s'.1 < b ∧ shiftDown ltInt s'.1 s'.2 = d2) (fun s' => s'.1) (j - 1, d1) ⟨rfl, rfl, rfl, rfl, rfl, rfl, int_eq (by first | rfl | omega | (dsimp only; omega)), trivial⟩ ⟨by rw [hd1, e1, e2]; rfl, by dsimp only; omega, hd2.symm⟩ ?_
            rintro ⟨u, v⟩ Γ junk ⟨rfl, h1, h4⟩
            dsimp only at h1 h4 ⊢
            by_cases hu : 0 < u
            · obtain ⟨u, rfl⟩ : ∃ m, u = m + 1 := ⟨u - 1, by omega⟩
              have e3 : ((u + 1 : Nat) : Int).toNat = u + 1 := by omega
              have e4 : (((u + 1 : Nat) : Int) - 1).toNat = u := by omega
              repeat' (first | refine zck ?_ | refine zcp (by kernel_rfl) ?_ | refine run_drawR PP_mixed (by kernel_rfl) (by kernel_rfl) ?_ | refine zcm ?_ | refine zcl ?_ | (refine zap rfl ?_; first | refine reg_load_d 0 rfl rfl (by omega) ?_ | refine zan rfl ?_ | refine zah [] (less_spec w0 _ _) rfl rfl rfl sub_nil rfl ?_ | refine zbm rfl rfl (by omega) ?_ | refine zav rfl rfl (by omega) ?_ | refine zby rfl ?_ | refine zas rfl rfl (by omega) ?_) | refine zch ?_ | refine zci rfl ?_)
              refine run_cond rfl (fun hE => ?_) (fun hE => ?_)
              · rw [e3, e4] at hE
                refine cut_exit rfl rfl ?_
                refine cut_end ⟨rfl, ⟨rfl, rfl, rfl, rfl, rfl, rfl, trivial⟩, ?_⟩
                rw [← h4, sd_stop (by simpa [ltInt] using hE)]; rfl
              · rw [e3, e4] at hE
                repeat' (first | refine zcp (by kernel_rfl) ?_ | refine run_drawR PP_mixed (by kernel_rfl) (by kernel_rfl) ?_ | refine zcm ?_ | refine zcn ?_ | (refine zap rfl ?_; first | refine reg_load_d 0 rfl rfl (by omega) ?_ | refine reg_store_d 0 rfl rfl rfl (by omega) rfl ?_ | refine zan rfl ?_ | refine zan rfl ?_ | refine zav rfl rfl (by omega) ?_ | refine zas rfl rfl (by omega) ?_) | refine zch ?_)
                refine cut_end ⟨rfl, (u, swp v (u + 1) u), ⟨rfl, rfl, rfl, rfl, rfl, rfl, int_eq (by first | rfl | omega | (dsimp only; omega)), trivial⟩, ⟨?_, by dsimp only; omega, ?_⟩, by dsimp only; omega⟩
                · rw [e3, e4]; rfl
                · rw [← h4, sd_go (by simpa [ltInt] using hE)]
            · have hu0 : u = 0 := by omega
              subst hu0
              repeat' (first | refine zck ?_ | refine zcp (by kernel_rfl) ?_ | (refine zap rfl ?_; first | refine zan rfl ?_ | refine zbn rfl rfl (by omega) ?_) | refine zch ?_ | refine zcj rfl ?_)
              refine cut_exit rfl rfl ?_
              refine cut_end ⟨rfl, ⟨rfl, rfl, rfl, rfl, rfl, rfl, trivial⟩, ?_⟩
              rw [← h4]; rfl
          · rw [if_neg (by omega)] at hd2
            repeat' (first | refine zcm ?_ | (refine zap rfl ?_; first | refine reg_load_d 0 rfl rfl (by omega) ?_) | refine zch ?_)
            refine cut_end ⟨rfl, ⟨rfl, rfl, rfl, rfl, rfl, rfl, trivial⟩, ?_⟩
            rw [hd2, hd1, e1, e2]; rfl
        repeat (first | refine zck ?_ | refine zcl ?_ | refine zcm ?_ | refine zcn ?_)
        first | refine zcp (by kernel_rfl) ?_ | refine run_drawR PP_mixed (by kernel_rfl) (by kernel_rfl) ?_
        repeat' (refine zap rfl ?_; first | refine zan rfl ?_ | refine zav rfl rfl (by omega) ?_ | refine zbt rfl rfl ?_)
        all_goals refine zch ?_
        all_goals repeat (first | refine zck ?_ | refine zcl ?_ | refine zcm ?_ | refine zcn ?_)
        refine run_bind_eq (l' := [(0, .slice (some ⟨bb, 0, none⟩) N cap), (1, .int .i64 a), (2, .int .i64 b), (6, .bool false), (7, .int .i64 j), (8, .int .i64 (5 - ((s + 1 : Nat) : Int)))]) (Γ' := [Dat 28 bb N cap d3]) ?_ (fun junk => ?_)
        · refine run_cond rfl (fun hc => ?_) (fun hc => ?_)
          · rw [if_pos (by omega)] at hd3
            repeat' (first | refine zck ?_ | refine zcp (by kernel_rfl) ?_ | refine zcl ?_ | (refine zap rfl ?_; first | refine zan rfl ?_ | refine zan rfl ?_ | refine zau rfl rfl (by omega) ?_) | refine zch ?_)
            refine run_loop (S := Nat × Array Int) (fun s' => [(0, .slice (some ⟨bb, 0, none⟩) N cap), (1, .int .i64 a), (2, .int .i64 b), (6, .bool false), (7, .int .i64 j), (8, .int .i64 (5 - ((s + 1 : Nat) : Int))), (10, .int .i64 s'.1)])
              (fun s' Γ => Γ = [Dat 28 bb N cap s'.2] ∧ 0 < s'.1 ∧ s'.1 ≤ b ∧ shiftUp ltInt b s'.1 s'.2 = d3) (fun s' => b - s'.1) (j + 1, d2) ⟨rfl, rfl, rfl, rfl, rfl, rfl, int_eq (by first | rfl | omega | (dsimp only; omega)), trivial⟩ ⟨rfl, by dsimp only; omega, by dsimp only; omega, hd3.symm⟩ ?_
            rintro ⟨u, v⟩ Γ junk ⟨rfl, h0, h1, h4⟩
            dsimp only at h0 h1 h4 ⊢
            by_cases hu : u < b
            · have e3 : ((u : Nat) : Int).toNat = u := by omega
              have e4 : (((u : Nat) : Int) - 1).toNat = u - 1 := by omega
              repeat' (first | refine zck ?_ | refine zcp (by kernel_rfl) ?_ | refine run_drawR PP_mixed (by kernel_rfl) (by kernel_rfl) ?_ | refine zcm ?_ | refine zcl ?_ | (refine zap rfl ?_; first | refine reg_load_d 0 rfl rfl (by omega) ?_ | refine zan rfl ?_ | refine zah [] (less_spec w0 _ _) rfl rfl rfl sub_nil rfl ?_ | refine zbg rfl rfl (by omega) ?_ | refine zav rfl rfl (by omega) ?_ | refine zby rfl ?_ | refine zas rfl rfl (by omega) ?_) | refine zch ?_ | refine zci rfl ?_)
              refine run_cond rfl (fun hE => ?_) (fun hE => ?_)
              · rw [e3, e4] at hE
                refine cut_exit rfl rfl ?_
                refine cut_end ⟨rfl, ⟨rfl, rfl, rfl, rfl, rfl, rfl, trivial⟩, ?_⟩
                rw [← h4, su_stop (fun _ => by simpa [ltInt] using hE)]; rfl
              · rw [e3, e4] at hE
                repeat' (first | refine zcp (by kernel_rfl) ?_ | refine run_drawR PP_mixed (by kernel_rfl) (by kernel_rfl) ?_ | refine zcm ?_ | refine zcn ?_ | (refine zap rfl ?_; first | refine reg_load_d 0 rfl rfl (by omega) ?_ | refine reg_store_d 0 rfl rfl rfl (by omega) rfl ?_ | refine zan rfl ?_ | refine zan rfl ?_ | refine zau rfl rfl (by omega) ?_ | refine zav rfl rfl (by omega) ?_ | refine zas rfl rfl (by omega) ?_) | refine zch ?_)
                refine cut_end ⟨rfl, (u + 1, swp v u (u - 1)), ⟨rfl, rfl, rfl, rfl, rfl, rfl, int_eq (by first | rfl | omega | (dsimp only; omega)), trivial⟩, ⟨?_, by dsimp only; omega, by dsimp only; omega, ?_⟩, by dsimp only; omega⟩
                · rw [e3, e4]; rfl
                · rw [← h4, su_go hu (by simpa [ltInt] using hE)]
            · repeat' (first | refine zck ?_ | refine zcp (by kernel_rfl) ?_ | (refine zap rfl ?_; first | refine zan rfl ?_ | refine zbh rfl rfl (by omega) ?_) | refine zch ?_ | refine zcj rfl ?_)
              refine cut_exit rfl rfl ?_
              refine cut_end ⟨rfl, ⟨rfl, rfl, rfl, rfl, rfl, rfl, trivial⟩, ?_⟩
              rw [← h4, su_stop (fun h => absurd h hu)]
          · rw [if_neg (by omega)] at hd3
            repeat' (first | refine zcm ?_ | (refine zap rfl ?_; first | refine reg_load_d 0 rfl rfl (by omega) ?_) | refine zch ?_)
            refine cut_end ⟨rfl, ⟨rfl, rfl, rfl, rfl, rfl, rfl, trivial⟩, ?_⟩
            rw [hd3]
        repeat' (first | refine zcp (by kernel_rfl) ?_ | refine zcn ?_ | (refine zap rfl ?_; first | refine zan rfl ?_ | refine zan rfl ?_ | refine zau rfl rfl (by omega) ?_) | refine zch ?_)
        refine cut_end ⟨rfl, (s, j, d3), ⟨rfl, rfl, rfl, rfl, rfl, int_eq (by first | rfl | omega | (dsimp only; omega)), trivial⟩, ⟨rfl, by dsimp only; omega, by dsimp only; omega, by dsimp only; omega, g5⟩, by dsimp only; omega⟩
  · repeat' (first | refine zck ?_ | refine zcp (by kernel_rfl) ?_ | (refine zap rfl ?_; first | refine zan rfl ?_ | refine zbh rfl rfl (by omega) ?_) | refine zch ?_ | refine zcj rfl ?_)
    refine cut_exit rfl rfl ?_
    repeat' (first | refine zck ?_ | refine zcp (by kernel_rfl) ?_ | (refine zap rfl ?_; first | refine zan rfl ?_) | refine zch ?_)
    have hs0 : s = 0 := by omega
    subst hs0
    refine ret_tmp1 rfl ⟨?_, (show [_] = [_] from ?_)⟩
    · rw [← g5]; rfl
    · rw [← g5]; rfl
end Go.Proofs.YtloekplbhknepaaGreat

namespace Go.Proofs.YtloekplbhknepaaGreat
open Go.Vc
open Go.Sort (ltInt order2 median medianAdjacent choosePivot Hint)
abbrev Swp (sw s : Nat) : Asn := pt sw (.cells (List.toArray [.int .i64 (s : Int)]) 3 (0, 0))
theorem o2_true {D : Array Int} {a b s : Nat} (h : ltInt D[b]! D[a]! = true) : order2 ltInt D a b s = (b, a, s + 1) := by rw [order2, if_pos h]
theorem o2_false {D : Array Int} {a b s : Nat} (h : ltInt D[b]! D[a]! = false) : order2 ltInt D a b s = (a, b, s) := by rw [order2, if_neg (by rw [h]; exact Bool.false_ne_true)]
theorem o2_lt {D : Array Int} {a b s N : Nat} (ha : a < N) (hb : b < N) : (order2 ltInt D a b s).1 < N ∧ (order2 ltInt D a b s).2.1 < N ∧ (order2 ltInt D a b s).2.2 ≤ s + 1 := by
  cases h : ltInt D[b]! D[a]! with
  | true => rw [o2_true h]; exact ⟨hb, ha, Nat.le_refl _⟩
  | false => rw [o2_false h]; exact ⟨ha, hb, Nat.le_succ _⟩
theorem order2_spec (w0 : World) (bb N cap : Nat) (D : Array Int) (sw a b s : Nat) (hN : N ≤ 1152921504606846975) (ha : a < N) (hb : b < N) (hs : s ≤ 1000) :
    FnE PP w0 [] 144 [.slice (some ⟨bb, 0, none⟩) N cap, .int .i64 a, .int .i64 b, .pointer (some ⟨sw, 0, none⟩)] [Dat 28 bb N cap D, Swp sw s]
      (.tuple #[.int .i64 ((order2 ltInt D a b s).1 : Nat), .int .i64 ((order2 ltInt D a b s).2.1 : Nat)]) [Dat 28 bb N cap D, Swp sw (order2 ltInt D a b s).2.2] := by
  refine fn_of_run en144 fn144 rfl rfl rfl ?_
  have e1 : ((a : Nat) : Int).toNat = a := by omega
  have e2 : ((b : Nat) : Int).toNat = b := by omega
  repeat' (first | refine zck ?_ | refine zcp (by kernel_rfl) ?_ | refine run_drawR PP_mixed (by kernel_rfl) (by kernel_rfl) ?_ | (refine zap rfl ?_; first | refine reg_load_d 0 rfl rfl (by omega) ?_ | refine zan rfl ?_ | refine zan rfl ?_ | refine zah [] (less_spec w0 _ _) rfl rfl rfl sub_nil rfl ?_ | refine zas rfl rfl (by omega) ?_) | refine zch ?_)
  refine run_cond rfl (fun hE => ?_) (fun hE => ?_)
  · rw [e1, e2] at hE
    repeat' (first | refine zck ?_ | refine zcp (by kernel_rfl) ?_ | (refine zap rfl ?_; first | refine zan rfl ?_ | refine zan rfl ?_ | refine zab 1 rfl rfl rfl ?_ | refine zau rfl rfl (by omega) ?_ | refine zae 1 rfl rfl rfl rfl rfl rfl rfl ?_ | refine zan rfl ?_) | refine zch ?_)
    rw [o2_true (by simpa [ltInt] using hE)]
    exact ret_tmp2 rfl ⟨rfl, rfl⟩
  · rw [e1, e2] at hE
    repeat' (first | refine zck ?_ | refine zcp (by kernel_rfl) ?_ | refine zcm ?_ | (refine zap rfl ?_; first | refine zan rfl ?_ | refine zan rfl ?_) | refine zch ?_)
    rw [o2_false (by simpa [ltInt] using hE)]
    exact ret_tmp2 rfl ⟨rfl, rfl⟩
theorem median_spec (w0 : World) (bb N cap : Nat) (D : Array Int) (sw s : Nat) (za zb zc : Int) (a b c : Nat) (hN : N ≤ 1152921504606846975) (ha : a < N) (hb : b < N) (hc : c < N) (hs : s ≤ 900) (e1 : za = a) (e2 : zb = b) (e3 : zc = c) :
    FnE PP w0 [] 140 [.slice (some ⟨bb, 0, none⟩) N cap, .int .i64 za, .int .i64 zb, .int .i64 zc, .pointer (some ⟨sw, 0, none⟩)] [Dat 28 bb N cap D, Swp sw s]
      (.int .i64 ((median ltInt D a b c s).1 : Nat)) [Dat 28 bb N cap D, Swp sw (median ltInt D a b c s).2] := by
  subst e1; subst e2; subst e3
  refine fn_of_run en140 fn140 rfl rfl rfl ?_
  have h1 := o2_lt (D := D) (s := s) ha hb
  have h2 := o2_lt (D := D) (s := (order2 ltInt D a b s).2.2) h1.2.1 hc
  have h3 := o2_lt (D := D) (s := (order2 ltInt D (order2 ltInt D a b s).2.1 c (order2 ltInt D a b s).2.2).2.2) h1.1 h2.1
  repeat' (first | refine zck ?_ | refine zcp (by kernel_rfl) ?_ | (refine zap rfl ?_; first | refine zan rfl ?_ | refine zan rfl ?_ | refine zah [0, 0] (order2_spec w0 bb N cap D sw _ _ _ hN (by omega) (by omega) (by omega)) rfl rfl rfl sub_nil rfl ?_ | refine zan rfl ?_) | refine zch ?_)
  exact ret_tmp1 rfl ⟨rfl, rfl⟩
theorem median_lt {D : Array Int} {a b c s N : Nat} (ha : a < N) (hb : b < N) (hc : c < N) : (median ltInt D a b c s).1 < N ∧ (median ltInt D a b c s).2 ≤ s + 3 := by
  have h1 := o2_lt (D := D) (s := s) ha hb
  have h2 := o2_lt (D := D) (s := (order2 ltInt D a b s).2.2) h1.2.1 hc
  have h3 := o2_lt (D := D) (s := (order2 ltInt D (order2 ltInt D a b s).2.1 c (order2 ltInt D a b s).2.2).2.2) h1.1 h2.1
  exact ⟨h3.2.1, by show (order2 ltInt D _ _ _).2.2 ≤ _; omega⟩
theorem adj_spec (w0 : World) (bb N cap : Nat) (D : Array Int) (sw s : Nat) (za : Int) (a : Nat) (hN : N ≤ 1152921504606846975) (ha : a + 1 < N) (h0 : 0 < a) (hs : s ≤ 900) (e1 : za = a) :
    FnE PP w0 [] 139 [.slice (some ⟨bb, 0, none⟩) N cap, .int .i64 za, .pointer (some ⟨sw, 0, none⟩)] [Dat 28 bb N cap D, Swp sw s]
      (.int .i64 ((medianAdjacent ltInt D a s).1 : Nat)) [Dat 28 bb N cap D, Swp sw (medianAdjacent ltInt D a s).2] := by
  subst e1
  refine fn_of_run en139 fn139 rfl rfl rfl ?_
  repeat' (first | refine zck ?_ | refine zcp (by kernel_rfl) ?_ | (refine zap rfl ?_; first | refine zan rfl ?_ | refine zan rfl ?_ | refine zah [0, 0] (median_spec w0 bb N cap D sw s _ _ _ (a - 1) a (a + 1) hN (by omega) (by omega) (by omega) hs (by omega) (by omega) (by omega)) rfl rfl rfl sub_nil rfl ?_ | refine zau rfl rfl (by omega) ?_ | refine zav rfl rfl (by omega) ?_) | refine zch ?_)
  exact ret_tmp1 rfl ⟨rfl, rfl⟩
end Go.Proofs.YtloekplbhknepaaGreat

