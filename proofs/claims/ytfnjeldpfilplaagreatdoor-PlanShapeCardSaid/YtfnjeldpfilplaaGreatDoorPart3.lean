import Derived.Test.YtfnjeldpfilplaaGreatDoorPart2
import Derived.Test.YtfnjeldpfilplaaGreatDoorKit
import Derived.Test.YtfnjeldpfilplaaGreatDoorKitA
import Derived.Test.YtfnjeldpfilplaaGreatDoorPart1
/- Lemmas and walks for the claims of this seat (own work): Ss12 Ss13 Cc0 Sy0 Ca0 Ef0 Ef1 Dd0 Cs0 Ge0 Pd0 Sx0. -/
namespace Go.Proofs.YtfnjeldpfilplaaGreatDoor
open Go.Vc
open Go.Sort (ltStr swp bitsLen Hint insertionSort heapSort breakPatterns choosePivot reverseRange partialInsertionSort partitionEqual partition pdq)
def PdqAt (w0 : World) (bb N cap a b limit : Nat) (D : Array (List UInt8)) : Prop :=
  FnE PP w0 [] 91 [.slice (some ⟨bb, 0, none⟩) N cap, .int .i64 a, .int .i64 b, .int .i64 limit] [DatS 9 bb N cap D] (.tuple #[]) [DatS 9 bb N cap (pdq ltStr D a b limit true true)]
set_option maxHeartbeats 4000000
theorem pdq_spec (w0 : World) (bb N cap : Nat) (hN : N < 65536) : ∀ (m a b limit : Nat) (D : Array (List UInt8)), b - a ≤ m → a ≤ b → b ≤ N → limit ≤ 1000 → D.size = N → PdqAt w0 bb N cap a b limit D := by
  intro m
  induction m with
  | zero =>
    intro a b limit D hm hab hb hl hD
    unfold PdqAt
    refine fn_of_run en91 fn91 rfl rfl rfl ?_
    repeat' (first | refine zck ?_ | refine zcp (by kernel_rfl) ?_ | refine zcl ?_ | (refine zap rfl ?_; first | refine zan rfl ?_) | refine zch ?_)
    refine run_loop1 ?_
    repeat' (first | refine zck ?_ | refine zcp (by kernel_rfl) ?_ | refine zcl ?_ | (refine zap rfl ?_; first | refine zan rfl ?_ | refine zan rfl ?_ | refine zah [0] (ins_spec w0 bb N cap D a b (by omega) hab hb hD) rfl rfl rfl sub_nil rfl ?_ | refine zbi rfl rfl (by omega) ?_ | refine zav rfl rfl (by omega) ?_) | refine zch ?_ | refine zci rfl ?_)
    rw [pdq_small (by omega)]
    exact qret0 (fun _ _ h => h) rfl ⟨rfl, rfl⟩
  | succ m ih =>
    intro a b limit D hm hab hb hl hD
    unfold PdqAt
    refine fn_of_run en91 fn91 rfl rfl rfl ?_
    repeat' (first | refine zck ?_ | refine zcp (by kernel_rfl) ?_ | refine zcl ?_ | (refine zap rfl ?_; first | refine zan rfl ?_) | refine zch ?_)
    refine run_loop (S := Nat × Nat × Nat × Bool × Bool × Array (List UInt8)) (fun s => [(0, .slice (some ⟨bb, 0, none⟩) N cap), (1, .int .i64 s.1), (2, .int .i64 s.2.1), (3, .int .i64 s.2.2.1), (8, .bool s.2.2.2.1), (9, .bool s.2.2.2.2.1)])
      (fun s Γ => Γ = [DatS 9 bb N cap s.2.2.2.2.2] ∧ s.2.1 - s.1 ≤ m + 1 ∧ s.1 ≤ s.2.1 ∧ s.2.1 ≤ N ∧ s.2.2.1 ≤ 1000 ∧ s.2.2.2.2.2.size = N ∧ pdq ltStr s.2.2.2.2.2 s.1 s.2.1 s.2.2.1 s.2.2.2.1 s.2.2.2.2.1 = pdq ltStr D a b limit true true)
      (fun s => s.2.1 - s.1) (a, b, limit, true, true, D) ⟨rfl, rfl, rfl, rfl, rfl, rfl, trivial⟩ ⟨rfl, hm, hab, hb, hl, hD, rfl⟩ ?_
    generalize pdq ltStr D a b limit true true = RR
    clear hD hl hb hab hm D a b limit
    rintro ⟨a, b, limit, wb, wp, D⟩ Γ junk ⟨rfl, hm, hab, hb, hl, hD, hR⟩
    dsimp only at hm hab hb hl hD hR ⊢
    by_cases h12 : b - a ≤ 12
    · repeat' (first | refine zck ?_ | refine zcp (by kernel_rfl) ?_ | refine zcl ?_ | (refine zap rfl ?_; first | refine zan rfl ?_ | refine zan rfl ?_ | refine zah [0] (ins_spec w0 bb N cap D a b (by omega) hab hb hD) rfl rfl rfl sub_nil rfl ?_ | refine zbi rfl rfl (by omega) ?_ | refine zav rfl rfl (by omega) ?_) | refine zch ?_ | refine zci rfl ?_)
      rw [← hR, pdq_small h12]
      exact qret0 (fun _ _ h => h) rfl ⟨rfl, rfl⟩
    · by_cases h0 : limit = 0
      · subst h0
        repeat' (first | refine zck ?_ | refine zcp (by kernel_rfl) ?_ | refine zcm ?_ | refine zcl ?_ | (refine zap rfl ?_; first | refine zan rfl ?_ | refine zan rfl ?_ | refine zah [0] (heap_spec w0 bb N cap D a b (by omega) (by omega) hb hD) rfl rfl rfl sub_nil rfl ?_ | refine zbc rfl rfl (by omega) ?_ | refine zbj rfl rfl (by omega) ?_ | refine zav rfl rfl (by omega) ?_) | refine zch ?_ | refine zci rfl ?_ | refine zcj rfl ?_)
        rw [← hR, pdq_heap h12]
        exact qret0 (fun _ _ h => h) rfl ⟨rfl, rfl⟩
      · obtain ⟨d1, hd1⟩ : ∃ d1, d1 = if !wb then breakPatterns D a b else D := ⟨_, rfl⟩
        obtain ⟨lim, hlim⟩ : ∃ lim, lim = if !wb then limit - 1 else limit := ⟨_, rfl⟩
        have hlim1 : lim ≤ 1000 := by rw [hlim]; split <;> omega
        obtain ⟨c, hc⟩ : ∃ c, c = choosePivot ltStr d1 a b := ⟨_, rfl⟩
        have hcr : a ≤ c.1 ∧ c.1 < b := by rw [hc]; exact Go.Sort.choosePivot_holds ltStr d1 a b (by omega)
        obtain ⟨d2, hd2⟩ : ∃ d2, d2 = if c.2 = .decreasing then reverseRange d1 a b else d1 := ⟨_, rfl⟩
        obtain ⟨pv, hpv⟩ : ∃ pv, pv = if c.2 = .decreasing then (b - 1) - (c.1 - a) else c.1 := ⟨_, rfl⟩
        have hpr : a ≤ pv ∧ pv < b := by rw [hpv]; split <;> omega
        obtain ⟨hint, hh⟩ : ∃ hint, hint = if c.2 = .decreasing then .increasing else c.2 := ⟨_, rfl⟩
        obtain ⟨pi, hpi⟩ : ∃ pi, pi = if wb && wp && hint = .increasing then partialInsertionSort ltStr d2 a b else (d2, false) := ⟨_, rfl⟩
        rw [pdq_unf h12 h0 hd1 hlim hc hd2 hpv hh hpi] at hR
        repeat (first | refine zck ?_ | refine zcl ?_ | refine zcm ?_ | refine zcn ?_)
        first | refine zcp (by kernel_rfl) ?_ | refine zcq PP_mixed (by kernel_rfl) (by kernel_rfl) ?_
        repeat' (refine zap rfl ?_; first | refine zan rfl ?_ | refine zan rfl ?_ | refine zav rfl rfl (by omega) ?_)
        all_goals refine zch ?_
        all_goals repeat (first | refine zck ?_ | refine zcl ?_ | refine zcm ?_ | refine zcn ?_)
        repeat (first | refine zck ?_ | refine zcl ?_ | refine zcm ?_ | refine zcn ?_)
        first | refine zcp (by kernel_rfl) ?_ | refine zcq PP_mixed (by kernel_rfl) (by kernel_rfl) ?_
        repeat' (refine zap rfl ?_; first | refine zan rfl ?_ | refine zbj rfl rfl (by omega) ?_)
        all_goals refine zch ?_
        all_goals repeat (first | refine zck ?_ | refine zcl ?_ | refine zcm ?_ | refine zcn ?_)
        refine zcj rfl ?_
        refine zcm ?_
        repeat (first | refine zck ?_ | refine zcl ?_ | refine zcm ?_ | refine zcn ?_)
        first | refine zcp (by kernel_rfl) ?_ | refine zcq PP_mixed (by kernel_rfl) (by kernel_rfl) ?_
        repeat' (refine zap rfl ?_; first | refine zan rfl ?_ | refine zbd rfl rfl (by omega) ?_)
        all_goals refine zch ?_
        all_goals repeat (first | refine zck ?_ | refine zcl ?_ | refine zcm ?_ | refine zcn ?_)
        refine zcj rfl ?_
        refine zcm ?_
        repeat (first | refine zck ?_ | refine zcl ?_ | refine zcm ?_ | refine zcn ?_)
        first | refine zcp (by kernel_rfl) ?_ | refine zcq PP_mixed (by kernel_rfl) (by kernel_rfl) ?_
        repeat' (refine zap rfl ?_; first | refine zan rfl ?_ | refine zbx rfl ?_)
        all_goals refine zch ?_
        all_goals repeat (first | refine zck ?_ | refine zcl ?_ | refine zcm ?_ | refine zcn ?_)
        refine run_bind_eq (l' := [(0, .slice (some ⟨bb, 0, none⟩) N cap), (1, .int .i64 a), (2, .int .i64 b), (3, .int .i64 lim), (8, .bool wb), (9, .bool wp), (10, .int .i64 ((b : Int) - (a : Int)))]) (Γ' := [DatS 9 bb N cap d1]) ?_ (fun junk => ?_)
        · cases wb with
          | false =>
            simp only [Bool.not_false, if_true] at hd1 hlim
            repeat' (first | refine zck ?_ | refine zcp (by kernel_rfl) ?_ | (refine zap rfl ?_; first | refine zan rfl ?_ | refine zan rfl ?_ | refine zah [0] (break_specE w0 bb N cap D a b hN (by omega) hb) rfl rfl rfl sub_nil rfl ?_ | refine zav rfl rfl (by omega) ?_) | refine zch ?_ | refine zci rfl ?_)
            refine cut_end ⟨rfl, ⟨rfl, rfl, rfl, int_eq (by omega), rfl, rfl, rfl, trivial⟩, by rw [hd1]; rfl⟩
          | true =>
            simp only [Bool.not_true, Bool.false_eq_true, if_false] at hd1 hlim
            repeat' (first | refine zcm ?_ | (refine zap rfl ?_; first | refine zaj rfl ?_ | refine zak rfl ?_ | refine zal rfl ?_ | refine zam rfl rfl (fun _ => ?_) (fun _ => ?_)) | refine zcj rfl ?_)
            refine cut_end ⟨rfl, ⟨rfl, rfl, rfl, int_eq (by omega), rfl, rfl, rfl, trivial⟩, by rw [hd1]⟩
        refine run_dats 0 rfl (fun hs1 => ?_)
        have hC := choose_specE w0 bb N cap d1 a b (by omega) (by omega) hb
        rw [← hc] at hC
        repeat (first | refine zck ?_ | refine zcl ?_ | refine zcm ?_ | refine zcn ?_)
        first | refine zcp (by kernel_rfl) ?_ | refine zcq PP_mixed (by kernel_rfl) (by kernel_rfl) ?_
        repeat' (refine zap rfl ?_; first | refine zan rfl ?_ | refine zan rfl ?_ | refine zah [0] hC rfl rfl rfl sub_nil rfl ?_ | refine zan rfl ?_)
        all_goals refine zch ?_
        all_goals repeat (first | refine zck ?_ | refine zcl ?_ | refine zcm ?_ | refine zcn ?_)
        repeat (first | refine zck ?_ | refine zcl ?_ | refine zcm ?_ | refine zcn ?_)
        first | refine zcp (by kernel_rfl) ?_ | refine zcq PP_mixed (by kernel_rfl) (by kernel_rfl) ?_
        repeat' (refine zap rfl ?_; first | refine zan rfl ?_ | refine zbo rfl rfl ?_)
        all_goals refine zch ?_
        all_goals repeat (first | refine zck ?_ | refine zcl ?_ | refine zcm ?_ | refine zcn ?_)
        refine run_bind_eq (l' := [(0, .slice (some ⟨bb, 0, none⟩) N cap), (1, .int .i64 a), (2, .int .i64 b), (3, .int .i64 lim), (8, .bool wb), (9, .bool wp), (10, .int .i64 ((b : Int) - (a : Int))), (11, .int .i64 pv), (12, .int .i64 (hintI hint))]) (Γ' := [DatS 9 bb N cap d2]) ?_ (fun junk => ?_)
        · refine run_cond rfl (fun hE => ?_) (fun hE => ?_)
          · have hE := hintI_two.1 hE
            rw [if_pos hE] at hd2 hpv hh
            repeat' (first | refine zck ?_ | refine zcp (by kernel_rfl) ?_ | (refine zap rfl ?_; first | refine zan rfl ?_ | refine zan rfl ?_ | refine zah [0] (rev_spec w0 bb N cap d1 a b (by omega) (by omega) hb hs1) rfl rfl rfl sub_nil rfl ?_ | refine zav rfl rfl (by omega) ?_) | refine zch ?_)
            refine cut_end ⟨rfl, ⟨rfl, rfl, rfl, rfl, rfl, rfl, rfl, int_eq (by omega), by rw [hh]; rfl, trivial⟩, by rw [hd2]; rfl⟩
          · have hE : ¬ c.2 = .decreasing := fun h => hE (hintI_two.2 h)
            rw [if_neg hE] at hd2 hpv hh
            repeat' (first | refine zcm ?_ | (refine zap rfl ?_; first | refine zaj rfl ?_ | refine zak rfl ?_ | refine zal rfl ?_ | refine zam rfl rfl (fun _ => ?_) (fun _ => ?_)) | refine zch ?_)
            refine cut_end ⟨rfl, ⟨rfl, rfl, rfl, rfl, rfl, rfl, rfl, int_eq (by omega), by rw [hh]; rfl, trivial⟩, by rw [hd2]; rfl⟩
        refine run_dats 0 rfl (fun hs2 => ?_)
        have hP := partial_spec w0 bb N cap d2 a b (by omega) (by omega) hb
        by_cases hp2 : pi.2 = true
        · rw [if_pos hp2] at hR
          have hcnd : (wb && wp && decide (hint = .increasing)) = true := by
            cases hq : (wb && wp && decide (hint = .increasing)) with
            | true => rfl
            | false => rw [hq] at hpi; simp at hpi; rw [hpi] at hp2; cases hp2
          rw [if_pos hcnd] at hpi
          rw [← hpi, hp2] at hP
          simp only [Bool.and_eq_true, decide_eq_true_eq] at hcnd
          obtain ⟨⟨rfl, rfl⟩, rfl⟩ := hcnd
          repeat' (first | refine zck ?_ | refine zcp (by kernel_rfl) ?_ | (refine zap rfl ?_; first | refine zaj rfl ?_ | refine zan rfl ?_ | refine zah [0] hP rfl rfl rfl sub_nil rfl ?_ | refine zbo rfl rfl ?_ | refine zbu rfl ?_) | refine zch ?_ | refine zci rfl ?_)
          rw [← hR]
          exact qret0 (fun _ _ h => h) rfl ⟨rfl, rfl⟩
        · have hp2 : pi.2 = false := by simpa using hp2
          rw [if_neg (by rw [hp2]; exact Bool.false_ne_true)] at hR
          repeat refine zck ?_
          refine run_bind_eq (l' := [(0, .slice (some ⟨bb, 0, none⟩) N cap), (1, .int .i64 a), (2, .int .i64 b), (3, .int .i64 lim), (8, .bool wb), (9, .bool wp), (10, .int .i64 ((b : Int) - (a : Int))), (11, .int .i64 pv), (68, .bool (wb && wp && decide (hint = .increasing)))]) (Γ' := [DatS 9 bb N cap d2]) ?_ (fun junk => ?_)
          · cases wb with
            | false =>
              repeat' (first | refine zcp (by kernel_rfl) ?_ | (refine zap rfl ?_; first | refine zak rfl ?_ | refine zan rfl ?_ | refine zbv rfl ?_) | refine zch ?_)
              refine cut_end ⟨rfl, ⟨rfl, rfl, rfl, rfl, rfl, rfl, rfl, rfl, rfl, trivial⟩, rfl⟩
            | true =>
              cases wp with
              | false =>
                repeat' (first | refine zcp (by kernel_rfl) ?_ | (refine zap rfl ?_; first | refine zaj rfl ?_ | refine zak rfl ?_ | refine zan rfl ?_ | refine zbu rfl ?_ | refine zbv rfl ?_) | refine zch ?_)
                refine cut_end ⟨rfl, ⟨rfl, rfl, rfl, rfl, rfl, rfl, rfl, rfl, rfl, trivial⟩, rfl⟩
              | true =>
                repeat' (first | refine zcp (by kernel_rfl) ?_ | (refine zap rfl ?_; first | refine zaj rfl ?_ | refine zan rfl ?_ | refine zbo rfl rfl ?_ | refine zbu rfl ?_) | refine zch ?_)
                refine cut_end ⟨rfl, ⟨rfl, rfl, rfl, rfl, rfl, rfl, rfl, rfl, congrArg Value.bool (decide_eq_decide.2 hintI_one), trivial⟩, rfl⟩
          repeat refine zck ?_
          refine run_bind_eq (l' := [(0, .slice (some ⟨bb, 0, none⟩) N cap), (1, .int .i64 a), (2, .int .i64 b), (3, .int .i64 lim), (8, .bool wb), (9, .bool wp), (10, .int .i64 ((b : Int) - (a : Int))), (11, .int .i64 pv)]) (Γ' := [DatS 9 bb N cap pi.1]) ?_ (fun junk => ?_)
          · refine run_condV rfl (fun hE => ?_) (fun hE => ?_)
            · rw [if_pos hE] at hpi
              rw [← hpi, hp2] at hP
              repeat' (first | refine zck ?_ | refine zcp (by kernel_rfl) ?_ | refine zcm ?_ | (refine zap rfl ?_; first | refine zan rfl ?_ | refine zah [0] hP rfl rfl rfl sub_nil rfl ?_) | refine zch ?_ | refine zcj rfl ?_)
              refine cut_end ⟨rfl, ⟨rfl, rfl, rfl, rfl, rfl, rfl, rfl, rfl, trivial⟩, rfl⟩
            · rw [if_neg (by rw [hE]; exact Bool.false_ne_true)] at hpi
              repeat' (first | refine zcm ?_ | (refine zap rfl ?_; first | refine zaj rfl ?_ | refine zak rfl ?_ | refine zal rfl ?_ | refine zam rfl rfl (fun _ => ?_) (fun _ => ?_)) | refine zch ?_)
              refine cut_end ⟨rfl, ⟨rfl, rfl, rfl, rfl, rfl, rfl, rfl, rfl, trivial⟩, by rw [hpi]⟩
          refine run_dats 0 rfl (fun hs3 => ?_)
          obtain ⟨d3, hd3⟩ : ∃ d3, d3 = pi.1 := ⟨_, rfl⟩
          rw [← hd3] at hs3 hR ⊢
          clear hP hpi hp2 hd3 hC hc hcr hd1 hd2 hpv hh hs1 hs2
          repeat refine zck ?_
          refine run_bind_eq (l' := [(0, .slice (some ⟨bb, 0, none⟩) N cap), (1, .int .i64 a), (2, .int .i64 b), (3, .int .i64 lim), (8, .bool wb), (9, .bool wp), (10, .int .i64 ((b : Int) - (a : Int))), (11, .int .i64 pv), (87, .bool (decide (a > 0) && !ltStr d3[a - 1]! d3[pv]!))]) (Γ' := [DatS 9 bb N cap d3]) ?_ (fun junk => ?_)
          · by_cases ha0 : 0 < a
            · have e1 : ((a : Int) - 1).toNat = a - 1 := by omega
              have e2 : ((pv : Nat) : Int).toNat = pv := by omega
              repeat' (first | refine run_drawR PP_mixed (by kernel_rfl) (by kernel_rfl) ?_ | (refine zap rfl ?_; first | refine reg_load_ds 0 rfl rfl (by omega) ?_ | refine zaj rfl ?_ | refine zan rfl ?_ | refine zah [] (less_spec w0 _ _) rfl rfl rfl sub_nil rfl ?_ | refine zbk rfl rfl (by omega) ?_ | refine zav rfl rfl (by omega) ?_ | refine zby rfl ?_ | refine zbu rfl ?_ | refine zas rfl rfl (by omega) ?_) | refine zch ?_)
              refine cut_end ⟨rfl, ⟨rfl, rfl, rfl, rfl, rfl, rfl, rfl, rfl, ?_, trivial⟩, rfl⟩
              rw [decide_eq_true ha0, Bool.true_and]
              show Value.bool (decide (¬ d3[((a : Int) - 1).toNat]! < d3[((pv : Nat) : Int).toNat]!)) = _
              rw [e1, e2]; simp only [ltStr, decide_not]
            · repeat' (first | refine run_drawR PP_mixed (by kernel_rfl) (by kernel_rfl) ?_ | (refine zap rfl ?_; first | refine zak rfl ?_ | refine zan rfl ?_ | refine zbl rfl rfl (by omega) ?_ | refine zbv rfl ?_) | refine zch ?_)
              refine cut_end ⟨rfl, ⟨rfl, rfl, rfl, rfl, rfl, rfl, rfl, rfl, ?_, trivial⟩, rfl⟩
              rw [decide_eq_false ha0]; rfl
          repeat refine zck ?_
          refine run_condV rfl (fun hE => ?_) (fun hE => ?_)
          · rw [if_pos hE] at hR
            have hq := parteq_range (d := d3) hpr.1 hpr.2 (by omega)
            have hS := partEq_spec w0 bb N cap d3 a b pv (by omega) hpr.1 hpr.2 hb hs3
            generalize partitionEqual ltStr d3 a b pv = q at hR hq hS
            obtain ⟨mid, d4⟩ := q
            dsimp only at hR hq hS
            rw [dif_pos hq] at hR
            repeat' (first | refine zck ?_ | refine zcp (by kernel_rfl) ?_ | refine zcs rfl ?_ | (refine zap rfl ?_; first | refine zan rfl ?_ | refine zan rfl ?_ | refine zah [0] hS rfl rfl rfl sub_nil rfl ?_) | refine zch ?_)
            refine run_dats 0 rfl (fun hs4 => ?_)
            refine cut_end ⟨rfl, (mid, b, lim, wb, wp, d4), ⟨rfl, rfl, rfl, rfl, rfl, rfl, trivial⟩, ⟨rfl, by dsimp only; omega, by dsimp only; omega, hb, hlim1, hs4, hR⟩, by dsimp only; omega⟩
          · rw [if_neg (by rw [hE]; exact Bool.false_ne_true)] at hR
            have hq := part_range (d := d3) hpr.1 hpr.2 (by omega)
            have hS := part_spec w0 bb N cap d3 a b pv (by omega) hpr.1 hpr.2 hb hs3
            generalize partition ltStr d3 a b pv = q at hR hq hS
            obtain ⟨mid, ap, d4⟩ := q
            dsimp only at hR hq hS
            rw [dif_pos hq] at hR
            refine zcm ?_
            repeat (first | refine zck ?_ | refine zcl ?_ | refine zcm ?_ | refine zcn ?_)
            first | refine zcp (by kernel_rfl) ?_ | refine zcq PP_mixed (by kernel_rfl) (by kernel_rfl) ?_
            repeat' (refine zap rfl ?_; first | refine zan rfl ?_ | refine zan rfl ?_ | refine zah [0] hS rfl rfl rfl sub_nil rfl ?_ | refine zan rfl ?_)
            all_goals refine zch ?_
            all_goals repeat (first | refine zck ?_ | refine zcl ?_ | refine zcm ?_ | refine zcn ?_)
            refine run_dats 0 rfl (fun hs4 => ?_)
            by_cases hlt : mid - a < b - mid
            · rw [if_pos hlt] at hR
              have hI := ih a mid lim d4 (by omega) hq.1 (by omega) hlim1 hs4
              unfold PdqAt at hI
              repeat' (first | refine zck ?_ | refine zcp (by kernel_rfl) ?_ | refine zcn ?_ | (refine zap rfl ?_; first | refine zan rfl ?_ | refine zan rfl ?_ | refine zah [0] hI rfl rfl rfl sub_nil rfl ?_ | refine zbg rfl rfl (by omega) ?_ | refine zau rfl rfl (by omega) ?_ | refine zav rfl rfl (by omega) ?_ | refine zbt rfl rfl ?_ | refine zax rfl rfl (by omega) ?_) | refine zch ?_ | refine zci rfl ?_)
              refine run_dats 0 rfl (fun hs5 => ?_)
              refine cut_end ⟨rfl, (mid + 1, b, lim, decide (mid - a ≥ (b - a) / 8), ap, pdq ltStr d4 a mid lim true true), ⟨rfl, int_eq (by first | rfl | omega | (dsimp only; omega)), rfl, rfl, congrArg Value.bool (decide_eq_decide.2 (by omega)), rfl, trivial⟩, ⟨rfl, by dsimp only; omega, by dsimp only; omega, hb, hlim1, hs5, hR⟩, by dsimp only; omega⟩
            · rw [if_neg hlt] at hR
              have hI := ih (mid + 1) b lim d4 (by omega) (by omega) hb hlim1 hs4
              unfold PdqAt at hI
              repeat' (first | refine zck ?_ | refine zcp (by kernel_rfl) ?_ | refine zcn ?_ | (refine zap rfl ?_; first | refine zan rfl ?_ | refine zan rfl ?_ | refine zah [0] hI rfl rfl rfl sub_nil rfl ?_ | refine zbh rfl rfl (by omega) ?_ | refine zau rfl rfl (by omega) ?_ | refine zav rfl rfl (by omega) ?_ | refine zbt rfl rfl ?_ | refine zax rfl rfl (by omega) ?_) | refine zch ?_ | refine zcj rfl ?_)
              refine run_dats 0 rfl (fun hs5 => ?_)
              refine cut_end ⟨rfl, (a, mid, lim, decide (b - mid ≥ (b - a) / 8), ap, pdq ltStr d4 (mid + 1) b lim true true), ⟨rfl, rfl, int_eq (by first | rfl | omega | (dsimp only; omega)), rfl, congrArg Value.bool (decide_eq_decide.2 (by omega)), rfl, trivial⟩, ⟨rfl, by dsimp only; omega, hq.1, by dsimp only; omega, hlim1, hs5, hR⟩, by dsimp only; omega⟩
end Go.Proofs.YtfnjeldpfilplaaGreatDoor

namespace Go.Proofs.YtfnjeldpfilplaaGreatDoor
open Go.Vc
open Go.Sort (ltStr bitsLen pdq)
theorem ins_nil (w0 : World) (v : Value) : FnE PP w0 [] 102 [v, .int .i64 0, .int .i64 0] [] (.tuple #[]) [] := by
  refine fn_of_run en102 fn102 rfl rfl rfl ?_
  repeat' (first | refine zck ?_ | refine zcp (by kernel_rfl) ?_ | refine zcl ?_ | (refine zap rfl ?_; first | refine zan rfl ?_ | refine zan rfl ?_ | refine zau rfl rfl (by omega) ?_) | refine zch ?_)
  refine run_loop1 ?_
  repeat' (first | refine zck ?_ | refine zcp (by kernel_rfl) ?_ | refine zcs rfl ?_ | (refine zap rfl ?_; first | refine zan rfl ?_ | refine zbh rfl rfl (by omega) ?_) | refine zch ?_ | refine zcj rfl ?_)
  exact end_tmp0 rfl ⟨rfl, rfl⟩
theorem pdq_nil (w0 : World) (v : Value) (lim : Int) : FnE PP w0 [] 91 [v, .int .i64 0, .int .i64 0, .int .i64 lim] [] (.tuple #[]) [] := by
  refine fn_of_run en91 fn91 rfl rfl rfl ?_
  repeat' (first | refine zck ?_ | refine zcp (by kernel_rfl) ?_ | refine zcl ?_ | (refine zap rfl ?_; first | refine zan rfl ?_) | refine zch ?_)
  refine run_loop1 ?_
  repeat' (first | refine zck ?_ | refine zcp (by kernel_rfl) ?_ | refine zcl ?_ | (refine zap rfl ?_; first | refine zan rfl ?_ | refine zan rfl ?_ | refine zah [] (ins_nil w0 _) rfl rfl rfl sub_nil rfl ?_ | refine zbi rfl rfl (by omega) ?_ | refine zav rfl rfl (by omega) ?_) | refine zch ?_ | refine zci rfl ?_)
  exact qret0 (fun _ _ h => h) rfl ⟨rfl, rfl⟩
theorem sort_spec (w0 : World) (a : Option Addr) (N cap : Nat) (l : List (List UInt8)) (hN : N < 65536) (hl : l.length = N) :
    FnE PP w0 [] 75 [.slice a N cap] [SlA 9 1 a N cap (strsV l)] (.tuple #[]) [SlA 9 1 a N cap (strsV (l.mergeSort fun x y => decide (x ≤ y)))] := by
  refine fn_of_run en75 fn75 rfl rfl rfl ?_
  refine run_sl_cases 0 rfl ?_ ?_
  · intro h1 h2 h3 h4
    subst h1; subst h2; subst h3
    have hl0 : l = [] := List.eq_nil_of_length_eq_zero hl
    subst hl0
    repeat' (first | refine zck ?_ | refine zcp (by kernel_rfl) ?_ | (refine zap rfl ?_; first | refine reg_convN ((0 : Nat) : Int) rfl (by decide) ?_ | refine zan rfl ?_ | refine zan rfl ?_ | refine zah [] (blen_spec w0 0 (by omega)) rfl rfl rfl sub_nil rfl ?_ | refine zah [] (pdq_nil w0 _ _) rfl rfl rfl sub_nil rfl ?_ | refine zce rfl ?_) | refine zch ?_)
    exact end_tmp0 rfl ⟨rfl, by rw [List.mergeSort_nil]; rfl⟩
  · intro nb h1 h2 h3
    subst h1
    have hb := (Go.Sort.bitsLen_le_iff N 16).2 (by omega)
    have hP := pdq_spec w0 nb N cap hN N 0 N (bitsLen N) l.toArray (by omega) (by omega) (Nat.le_refl _) (by omega) (by simpa using hl)
    unfold PdqAt at hP
    have hS := Go.Sort.sortStr l
    unfold Go.Sort.sort at hS
    rw [List.size_toArray, hl] at hS
    unfold DatS at hP
    rw [hS] at hP
    repeat' (first | refine zck ?_ | refine zcp (by kernel_rfl) ?_ | (refine zap rfl ?_; first | refine reg_convN ((N : Nat) : Int) rfl (by rw [IntKind.wrap_u64]; omega) ?_ | refine zan rfl ?_ | refine zan rfl ?_ | refine zah [] (blen_spec w0 N hN) rfl rfl rfl sub_nil rfl ?_ | refine zah [0] hP rfl rfl rfl sub_nil rfl ?_ | refine zce rfl ?_) | refine zch ?_)
    exact end_tmp0 rfl ⟨rfl, rfl⟩
end Go.Proofs.YtfnjeldpfilplaaGreatDoor

namespace Go.Vc
def RdSs2 (w0 : World) (sh : Shared) (vs : List Value) (ls : List (List (List UInt8))) : Prop := vs.length = ls.length ∧ ∀ (i : Nat) (v : Value) (l : List (List UInt8)), vs[i]? = some v → ls[i]? = some l → RdSl w0 sh encB 1 v l
end Go.Vc
namespace Go.Proofs.YtfnjeldpfilplaaGreatDoor
open Go.Vc Sim
def sumLen (ls : List (List (List UInt8))) : Nat := (ls.map List.length).sum
theorem sumLen_flat (ls : List (List (List UInt8))) : ls.flatten.length = sumLen ls := by simp [sumLen, List.length_flatten]
theorem grow_spec (w0 : World) (N : Nat) (hN : N ≤ 1000000) :
    Vc.Fn PP w0 [] 90 [.slice none 0 0, .int .i64 N] [] (fun v Γ => ∃ a c, v = .slice a 0 c ∧ Γ = [SlA 9 1 a 0 c []]) := by
  refine fn_of_run en90 fn90 rfl rfl rfl ?_
  by_cases h : 0 < N
  · repeat' (first | refine zck ?_ | refine zcp (by kernel_rfl) ?_ | refine zcm ?_ | (refine zap rfl ?_; first | refine reg_slice2 rfl rfl (by omega) ?_ | refine zan rfl ?_ | refine zan rfl ?_ | refine reg_append_mk (N := N) (kd := .i64) rfl (int_eq (by omega)) h rfl (by omega) (by omega) (fun nb cap => ?_) | refine reg_cap_slice rfl ?_ | refine zce rfl ?_ | refine zbh rfl rfl (by omega) ?_ | refine zbk rfl rfl (by omega) ?_ | refine zav rfl rfl (by omega) ?_) | refine zch ?_ | refine zci rfl ?_ | refine zcj rfl ?_)
    exact ret_tmp1 rfl ⟨_, _, rfl, rfl⟩
  · have h0 : N = 0 := by omega
    subst h0
    repeat' (first | refine zck ?_ | refine zcp (by kernel_rfl) ?_ | refine zcm ?_ | (refine zap rfl ?_; first | refine zan rfl ?_ | refine zan rfl ?_ | refine reg_cap_slice rfl ?_ | refine zce rfl ?_ | refine zbh rfl rfl (by omega) ?_ | refine zbl rfl rfl (by omega) ?_ | refine zav rfl rfl (by omega) ?_) | refine zch ?_ | refine zcj rfl ?_)
    refine run_nilslice 9 1 ?_
    exact ret_tmp1 rfl ⟨none, 0, rfl, rfl⟩
theorem sumLen_take {ls : List (List (List UInt8))} {i : Nat} {l : List (List UInt8)} (h : ls[i]? = some l) : sumLen (ls.take (i + 1)) = sumLen (ls.take i) + l.length := by
  unfold sumLen
  rw [List.take_add_one, h]
  simp
theorem sumLen_le (ls : List (List (List UInt8))) (i : Nat) : sumLen (ls.take i) ≤ sumLen ls := by
  have : sumLen ls = sumLen (ls.take i) + sumLen (ls.drop i) := by unfold sumLen; rw [← List.sum_append, ← List.map_append, List.take_append_drop]
  omega
theorem flat_take {ls : List (List (List UInt8))} {i : Nat} {l : List (List UInt8)} (h : ls[i]? = some l) : (ls.take (i + 1)).flatten = (ls.take i).flatten ++ l := by
  rw [List.take_add_one, h]
  simp
set_option maxHeartbeats 1000000 in
theorem concat_spec (w0 : World) (sh : Shared) (a : Option Addr) (cap : Nat) (vs : List Value) (ls : List (List (List UInt8))) (hv : RdSl w0 sh encV 1 (.slice a vs.length cap) vs) (h2 : RdSs2 w0 sh vs ls)
    (hn : sumLen ls ≤ 1000000) (hvl : vs.length ≤ 1000) :
    Vc.Fn PP w0 sh 74 [.slice a vs.length cap] [] (fun v Γ => ∃ a c, v = .slice a (sumLen ls) c ∧ Γ = [SlA 9 1 a (sumLen ls) c (strsV ls.flatten)]) := by
  obtain ⟨hl, h2⟩ := h2
  have hg : ∀ i, i < vs.length → ∃ b off c T fr a1 c1 l, a = some ⟨b, off, none⟩ ∧ (∀ hF Γ w, Sh sh hF → St w0 hF Γ w → w.heap[b]? = some (.cells c T fr)) ∧ (∀ o, o = off + i * 1 → rd false 1 c.toList o = some (.slice a1 l.length c1)) ∧
      ls[i]? = some l ∧ RdSl w0 sh encB 1 (.slice a1 l.length c1) l := by
    intro i hi
    obtain ⟨x, hx⟩ : ∃ x, vs[i]? = some x := ⟨_, List.getElem?_eq_getElem hi⟩
    obtain ⟨l, hl1⟩ : ∃ l, ls[i]? = some l := ⟨_, List.getElem?_eq_getElem (by omega)⟩
    obtain ⟨b, off, c, T, fr, e1, e2, _, e3⟩ := hv.cells hx
    have hR := h2 i x l hx hl1
    obtain ⟨a1, c1, e4, _, _⟩ := id hR
    subst e4
    exact ⟨b, off, c, T, fr, a1, c1, l, e1, e2, fun o ho => e3 0 _ rfl o ho, hl1, hR⟩
  refine fn_of_run en74 fn74 rfl rfl rfl ?_
  repeat' (first | refine zck ?_ | refine zcp (by kernel_rfl) ?_ | refine zcl ?_ | (refine zap rfl ?_; first | refine zan rfl ?_ | refine zan rfl ?_ | refine zce rfl ?_) | refine zch ?_)
  refine run_loop (S := Nat) (fun i => [(0, .slice a vs.length cap), (3, .int .i64 (sumLen (ls.take i) : Nat)), (9, .slice a vs.length cap), (10, .int .i64 vs.length), (11, .int .i64 i)])
    (fun i Γ => Γ = [] ∧ i ≤ vs.length) (fun i => vs.length - i) 0 ⟨rfl, rfl, rfl, rfl, rfl, trivial⟩ ⟨rfl, by omega⟩ ?_
  rintro i Γ junk ⟨rfl, h3⟩
  by_cases hi : i < vs.length
  · obtain ⟨b, off, c, T, fr, a1, c1, l, rfl, e2, e3, e4, e5⟩ := hg i hi
    have hs := sumLen_take e4
    have hs2 := sumLen_le ls (i + 1)
    repeat' (first | refine zck ?_ | refine zcp (by kernel_rfl) ?_ | refine zcm ?_ | refine zcl ?_ | refine zcn ?_ | (refine zap rfl ?_; first | refine zad rfl e2 (e3 _ (by omega)) ?_ | refine zan rfl ?_ | refine zan rfl ?_ | refine zce rfl ?_ | refine zbg rfl rfl (by omega) ?_ | refine zbh rfl rfl (by omega) ?_ | refine zau rfl rfl (by omega) ?_ | refine zas rfl rfl (by omega) ?_) | refine zch ?_ | refine zci rfl ?_ | refine zcj rfl ?_)
    refine cut_end ⟨rfl, i + 1, ⟨rfl, int_eq (by omega), rfl, rfl, int_eq (by omega), trivial⟩, ⟨rfl, by omega⟩, by omega⟩
  · repeat' (first | refine zck ?_ | refine zcp (by kernel_rfl) ?_ | (refine zap rfl ?_; first | refine zbh rfl rfl (by omega) ?_) | refine zch ?_ | refine zcj rfl ?_)
    refine cut_exit rfl rfl ?_
    have e : i = ls.length := by omega
    subst e
    rw [List.take_length]
    repeat' (first | refine zck ?_ | refine zcp (by kernel_rfl) ?_ | refine zcl ?_ | (refine zap rfl ?_; first | refine zan rfl ?_ | refine zan rfl ?_ | (refine zai [] (grow_spec w0 (sumLen ls) hn) rfl rfl rfl sub_nil ?_; rintro v Γ ⟨a0, c0, rfl, rfl⟩) | refine zce rfl ?_) | refine zch ?_)
    refine run_loop (S := Nat × Option Addr × Nat) (fun s => [(6, .slice s.2.1 (sumLen (ls.take s.1)) s.2.2), (25, .slice a vs.length cap), (26, .int .i64 vs.length), (27, .int .i64 s.1)])
      (fun s Γ => Γ = [SlA 9 1 s.2.1 (sumLen (ls.take s.1)) s.2.2 (strsV (ls.take s.1).flatten)] ∧ s.1 ≤ vs.length) (fun s => vs.length - s.1) (0, a0, c0) ⟨rfl, rfl, rfl, rfl, trivial⟩ ⟨rfl, by dsimp only; omega⟩ ?_
    rintro ⟨i, a2, c2⟩ Γ junk ⟨rfl, h3⟩
    dsimp only at h3 ⊢
    by_cases hi : i < vs.length
    · obtain ⟨b, off, c, T, fr, a1, c1, l, rfl, e2, e3, e4, e5⟩ := hg i hi
      have hs := sumLen_take e4
      have hs2 := sumLen_le ls (i + 1)
      have hf := flat_take e4
      repeat' (first | refine zck ?_ | refine zcp (by kernel_rfl) ?_ | refine zcm ?_ | refine zcl ?_ | refine zcn ?_ | (refine zap rfl ?_; first | refine zad rfl e2 (e3 _ (by omega)) ?_ | refine zan rfl ?_ | refine zan rfl ?_ | refine reg_append_rdE 0 rfl rfl e5 (by decide) (by rw [strsV_flat]; exact strsV_one _) rfl rfl (by omega) (fun _ _ => rfl) (fun a3 c3 => ?_) | refine zbg rfl rfl (by omega) ?_ | refine zau rfl rfl (by omega) ?_ | refine zas rfl rfl (by omega) ?_) | refine zch ?_ | refine zci rfl ?_)
      refine cut_end ⟨rfl, (i + 1, a3, c3), ⟨by dsimp only; rw [hs]; rfl, rfl, rfl, int_eq (by dsimp only; omega), trivial⟩, ⟨by dsimp only; rw [hs, hf, strsV_append, strsV_flat], by dsimp only; omega⟩, by dsimp only; omega⟩
    · repeat' (first | refine zck ?_ | refine zcp (by kernel_rfl) ?_ | (refine zap rfl ?_; first | refine zbh rfl rfl (by omega) ?_) | refine zch ?_ | refine zcj rfl ?_)
      refine cut_exit rfl rfl ?_
      have e : i = ls.length := by omega
      subst e
      rw [List.take_length]
      repeat' (first | refine zck ?_ | refine zcp (by kernel_rfl) ?_ | (refine zap rfl ?_; first | refine zan rfl ?_ | refine zan rfl ?_) | refine zch ?_)
      exact ret_tmp1 rfl ⟨_, _, rfl, rfl⟩
end Go.Proofs.YtfnjeldpfilplaaGreatDoor

namespace Sim
open Go Go.Vc
def bs (l : List UInt8) : ByteArray := ⟨l.toArray⟩
def kwL : List ByteArray := [bs [97, 98, 111, 114, 116], bs [97, 110, 100], bs [101, 108, 115, 101], bs [102, 97, 108, 115, 101], bs [104, 111, 115, 116], bs [105, 102], bs [108, 101, 116], bs [110, 111, 116], bs [111, 112], bs [111, 114], bs [114, 101, 112, 101, 97, 116], bs [114, 101, 116, 117, 114, 110], bs [115, 116, 111, 114, 101], bs [116, 114, 117, 101]]
def sgL : List ByteArray := [bs [43], bs [45], bs [42], bs [47], bs [37], bs [61, 61], bs [33, 61], bs [60], bs [60, 61], bs [62], bs [62, 61], bs [97, 110, 100], bs [111, 114]]
def inS (l : List ByteArray) (s : ByteArray) : Bool := l.any fun x => decide (x = s)
def letterB (b : Nat) : Bool := b == 95 || (decide (97 ≤ b) && decide (b ≤ 122)) || (decide (65 ≤ b) && decide (b ≤ 90))
def digitB (b : Nat) : Bool := decide (48 ≤ b) && decide (b ≤ 57)
def charsB : Nat → List UInt8 → Bool
  | _, [] => true
  | i, b :: l => (letterB b.toNat || (decide (i ≠ 0) && digitB b.toNat)) && charsB (i + 1) l
def nameB (s : ByteArray) : Bool := !(decide (s.size = 0) || decide (24 < s.size) || inS kwL s) && charsB 0 s.data.toList
structure RuleT where
  num : Bool
  name : Bool
  meth : Bool
  sign : Bool
  or : Bool
  top : Int
  least : Int
  most : Int
def ruleT (k : Int) : RuleT :=
  if k = 0 then ⟨true, false, false, false, false, 9223372036854775807, 0, 0⟩
  else if k = 1 then ⟨true, false, false, false, false, 1, 0, 0⟩
  else if k = 2 then ⟨false, true, false, false, false, 0, 0, 0⟩
  else if k = 3 then ⟨false, false, false, false, false, 0, 1, 1⟩
  else if k = 4 then ⟨false, false, false, false, false, 0, 1, 1⟩
  else if k = 5 then ⟨false, false, false, true, false, 0, 2, 2⟩
  else if k = 6 then ⟨false, true, true, false, true, 0, 0, 4⟩
  else ⟨false, true, false, false, false, 0, 0, 4⟩
def emptyS (s : ByteArray) : Bool := decide (s.size = 0)
def formE (r : RuleT) (e : PE) : Bool :=
  if (!r.num && decide (e.num ≠ 0)) || (!r.name && !emptyS e.name) || (!r.meth && !r.sign && !emptyS e.meth) then false
  else if r.sign && !inS sgL e.meth then false
  else if decide ((e.args.length : Int) < r.least) || decide (r.most < (e.args.length : Int)) then false
  else decide (e.or.length = 0) || (r.or && decide (e.or.length = 1))
def wrongE0 (e : PE) (d : Int) : Int :=
  if 12 < d then 18 else if e.kind < 0 ∨ 7 < e.kind then 2 else
  if formE (ruleT e.kind) e = false then 5 else
  if ((ruleT e.kind).name && !nameB e.name) || ((ruleT e.kind).meth && !nameB e.meth) then 16 else
  if (ruleT e.kind).num && (decide (e.num < 0) || decide ((ruleT e.kind).top < e.num)) then 3 else 0
mutual
def wrongE : PE → Int → Int
  | .mk k n a b xs os, d => if wrongE0 (.mk k n a b xs os) d ≠ 0 then wrongE0 (.mk k n a b xs os) d else if wrongEs xs (d + 1) ≠ 0 then wrongEs xs (d + 1) else wrongEs os (d + 1)
def wrongEs : List PE → Int → Int
  | [], _ => 0
  | e :: l, d => if wrongE e d ≠ 0 then wrongE e d else wrongEs l d
end
theorem wrongE_eq (e : PE) (d : Int) : wrongE e d = if wrongE0 e d ≠ 0 then wrongE0 e d else if wrongEs e.args (d + 1) ≠ 0 then wrongEs e.args (d + 1) else wrongEs e.or (d + 1) := by
  cases e; rw [wrongE]; rfl
def emptyE (e : PE) : Bool := decide (e.kind = 0) && decide (e.num = 0) && emptyS e.name && emptyS e.meth && decide (e.args.length = 0) && decide (e.or.length = 0)
def hasNm (k : Int) : Bool := decide (k = 0) || decide (k = 1)
def hasEx (k : Int) : Bool := decide (k ≠ 4) && decide (k ≠ 6)
def hasNu (k : Int) : Bool := decide (k = 4) || decide (k = 6)
def formS (s : PS) : Bool :=
  if (!hasNm s.kind && !emptyS s.name) || (!hasNu s.kind && decide (s.num ≠ 0)) || (!hasEx s.kind && !emptyE s.expr) then false
  else if (decide (s.kind ≠ 3) && decide (0 < s.els.length)) || (decide (s.kind ≠ 3) && decide (s.kind ≠ 4) && decide (0 < s.body.length)) then false
  else decide (s.kind ≠ 2) || decide (s.expr.kind = 6) || decide (s.expr.kind = 7)
def wrongS0 (s : PS) (d : Int) : Int :=
  if 12 < d then 18 else if s.kind < 0 ∨ 6 < s.kind then 2 else if formS s = false then 5 else
  if hasNm s.kind && !nameB s.name then 16 else if decide (s.num < 0) || (decide (s.kind = 4) && decide (64 < s.num)) then 3 else
  if hasEx s.kind = true then wrongE s.expr 1 else 0
mutual
def wrongS : PS → Int → Int
  | .mk k n a b xs os, d => if wrongS0 (.mk k n a b xs os) d ≠ 0 then wrongS0 (.mk k n a b xs os) d else if wrongSs xs (d + 1) ≠ 0 then wrongSs xs (d + 1) else wrongSs os (d + 1)
def wrongSs : List PS → Int → Int
  | [], _ => 0
  | e :: l, d => if wrongS e d ≠ 0 then wrongS e d else wrongSs l d
end
theorem wrongS_eq (e : PS) (d : Int) : wrongS e d = if wrongS0 e d ≠ 0 then wrongS0 e d else if wrongSs e.body (d + 1) ≠ 0 then wrongSs e.body (d + 1) else wrongSs e.els (d + 1) := by
  cases e; rw [wrongS]; rfl
structure PO where
  name : ByteArray
  params : List ByteArray
  body : List PS
structure PP' where
  stores : List (ByteArray × ByteArray)
  opers : List PO
def freshN (met : List ByteArray) (name : ByteArray) (more : List ByteArray) : Int := if !nameB name || more.any (fun s => !nameB s) then 16 else if inS met name then 11 else 0
def freshAll : List ByteArray → List ByteArray → Int
  | _, [] => 0
  | met, p :: l => if freshN met p [] ≠ 0 then freshN met p [] else freshAll (met ++ [p]) l
def wrongO (met : List ByteArray) (o : PO) : Int :=
  if freshN met o.name [] ≠ 0 then freshN met o.name [] else if 4 < o.params.length then 15 else
  if freshAll [] o.params ≠ 0 then freshAll [] o.params else wrongSs o.body 1
def wrongD : List ByteArray → List (ByteArray × ByteArray) → Int
  | _, [] => 0
  | met, d :: l => if freshN met d.1 [d.2] ≠ 0 then freshN met d.1 [d.2] else wrongD (met ++ [d.1]) l
def wrongOs : List ByteArray → List PO → Int
  | _, [] => 0
  | met, o :: l => if wrongO met o ≠ 0 then wrongO met o else wrongOs (met ++ [o.name]) l
def checkP (p : PP') : Int :=
  if 12 < p.stores.length ∨ 32 < p.opers.length then 15 else if wrongD [] p.stores ≠ 0 then wrongD [] p.stores else wrongOs [] p.opers
end Sim

namespace Sim
open Go Go.Vc
def ctNames : List ByteArray := [bs [99, 111, 117, 110, 116, 101, 114], bs [115, 116, 97, 99, 107], bs [113, 117, 101, 117, 101], bs [100, 101, 113, 117, 101], bs [109, 97, 112], bs [116, 114, 101, 101], bs [104, 101, 97, 112], bs [97, 114, 114, 97, 121], bs [103, 114, 97, 112, 104], bs [102, 111, 114, 101, 115, 116]]
def ctRows : List (List (ByteArray × Int × Bool)) := [
  [(bs [103, 101, 116], 0, false), (bs [97, 100, 100], 1, true), (bs [115, 101, 116], 1, true)],
  [(bs [112, 117, 115, 104], 1, true), (bs [112, 111, 112], 0, true), (bs [116, 111, 112], 0, false), (bs [108, 101, 110], 0, false)],
  [(bs [112, 117, 116], 1, true), (bs [116, 97, 107, 101], 0, true), (bs [102, 105, 114, 115, 116], 0, false), (bs [108, 101, 110], 0, false)],
  [(bs [112, 117, 115, 104, 95, 108, 101, 102, 116], 1, true), (bs [112, 117, 115, 104, 95, 114, 105, 103, 104, 116], 1, true), (bs [112, 111, 112, 95, 108, 101, 102, 116], 0, true), (bs [112, 111, 112, 95, 114, 105, 103, 104, 116], 0, true), (bs [108, 101, 102, 116], 0, false), (bs [114, 105, 103, 104, 116], 0, false), (bs [108, 101, 110], 0, false)],
  [(bs [112, 117, 116], 2, true), (bs [103, 101, 116], 1, false), (bs [104, 97, 115], 1, false), (bs [100, 114, 111, 112], 1, true), (bs [108, 101, 110], 0, false)],
  [(bs [112, 117, 116], 2, true), (bs [103, 101, 116], 1, false), (bs [104, 97, 115], 1, false), (bs [100, 114, 111, 112], 1, true), (bs [115, 117, 109], 2, false), (bs [99, 111, 117, 110, 116], 2, false), (bs [110, 101, 120, 116], 1, false), (bs [110, 116, 104], 1, false), (bs [108, 101, 110], 0, false)],
  [(bs [112, 117, 115, 104], 2, true), (bs [112, 111, 112], 0, true), (bs [109, 105, 110], 0, false), (bs [108, 101, 97, 115, 116], 0, false), (bs [108, 111, 119, 101, 114], 2, true), (bs [100, 114, 111, 112], 1, true), (bs [108, 101, 110], 0, false)],
  [(bs [112, 117, 115, 104], 1, true), (bs [112, 111, 112], 0, true), (bs [103, 101, 116], 1, false), (bs [115, 101, 116], 2, true), (bs [115, 119, 97, 112], 2, true), (bs [108, 101, 110], 0, false)],
  [(bs [97, 100, 100], 1, true), (bs [108, 105, 110, 107], 3, true), (bs [99, 117, 116], 1, true), (bs [100, 114, 111, 112], 1, true), (bs [119, 101, 105, 103, 104, 116], 2, false), (bs [108, 97, 98, 101, 108], 1, false), (bs [111, 117, 116, 115], 1, false), (bs [105, 110, 115], 1, false), (bs [118, 101, 114, 116, 105, 99, 101, 115], 0, false), (bs [101, 100, 103, 101, 115], 0, false)],
  [(bs [109, 97, 107, 101], 0, true), (bs [102, 105, 110, 100], 1, false), (bs [117, 110, 105, 111, 110], 2, true), (bs [117, 110, 100, 111], 0, true), (bs [115, 97, 109, 101], 2, false), (bs [115, 105, 122, 101], 1, false), (bs [115, 101, 116, 115], 0, false)]]
def ixS : List ByteArray → ByteArray → Nat → Option Nat
  | [], _, _ => none
  | x :: l, s, i => if x = s then some i else ixS l s (i + 1)
def ctKind (s : ByteArray) : Option Nat := ixS ctNames s 0
def ctMeths (k : Int) : List (ByteArray × Int × Bool) := if 0 ≤ k ∧ k ≤ 9 then ctRows.getD k.toNat [] else []
def ctFind (k : Int) (s : ByteArray) : Option (ByteArray × Int × Bool) := (ctMeths k).find? fun m => decide (m.1 = s)
end Sim

namespace Sim
open Go Go.Vc
def ltS (a b : ByteArray) : Prop := a.data.toList < b.data.toList
instance (a b : ByteArray) : Decidable (ltS a b) := inferInstanceAs (Decidable (a.data.toList < b.data.toList))
theorem ltS_irrefl (a : ByteArray) : ¬ ltS a a := List.lt_irrefl _
theorem ltS_trans {a b c : ByteArray} (h1 : ltS a b) (h2 : ltS b c) : ltS a c := List.lt_trans h1 h2
theorem ltS_tri {a b : ByteArray} (h1 : ¬ ltS a b) (h2 : ¬ ltS b a) : a = b := by
  refine WideShapes.bytes_inj ?_
  exact List.le_antisymm (List.not_lt.1 h2) (List.not_lt.1 h1)
theorem bytesLess_lt (a b : ByteArray) : Op.bytesLess a.toList b.toList = decide (ltS a b) := by
  rw [ByteArray.toList_eq, ByteArray.toList_eq, bytesLess_dec]; rfl
def StrS (l : List ByteArray) : Prop := l.Pairwise ltS
theorem strS_one : ∀ {l l' : List ByteArray}, StrS l → StrS l' → (∀ x, x ∈ l ↔ x ∈ l') → l = l'
  | [], [], _, _, _ => rfl
  | [], y :: r, _, _, h => absurd ((h y).2 (by simp)) (by simp)
  | x :: r, [], _, _, h => absurd ((h x).1 (by simp)) (by simp)
  | x :: r, y :: s, hl, hl', h => by
    obtain ⟨x1, x2⟩ := List.pairwise_cons.1 hl
    obtain ⟨y1, y2⟩ := List.pairwise_cons.1 hl'
    have hxy : x = y := by
      rcases List.mem_cons.1 ((h x).1 (by simp)) with e | e
      · exact e
      rcases List.mem_cons.1 ((h y).2 (by simp)) with e2 | e2
      · exact e2.symm
      exact absurd (ltS_trans (x1 y e2) (y1 x e)) (ltS_irrefl _)
    subst hxy
    rw [strS_one x2 y2 fun z => ?_]
    constructor
    · intro hz
      rcases List.mem_cons.1 ((h z).1 (by simp [hz])) with e | e
      · subst e; exact absurd (x1 z hz) (ltS_irrefl _)
      · exact e
    · intro hz
      rcases List.mem_cons.1 ((h z).2 (by simp [hz])) with e | e
      · subst e; exact absurd (y1 z hz) (ltS_irrefl _)
      · exact e
def insN : List ByteArray → ByteArray → List ByteArray
  | [], s => [s]
  | x :: l, s => if x = s then x :: l else if ltS s x then s :: x :: l else x :: insN l s
theorem mem_insN : ∀ (l : List ByteArray) (s x : ByteArray), x ∈ insN l s ↔ x ∈ l ∨ x = s
  | [], s, x => by simp [insN]
  | y :: l, s, x => by
    unfold insN
    split
    · rename_i h; subst h; simp only [List.mem_cons]; exact ⟨fun a => .inl a, fun a => a.elim id .inl⟩
    · split
      · simp only [List.mem_cons]; exact ⟨fun a => a.elim .inr .inl, fun a => a.elim .inr .inl⟩
      · simp only [List.mem_cons, mem_insN l s x, or_assoc]
theorem insN_str : ∀ {l : List ByteArray} (s : ByteArray), StrS l → StrS (insN l s)
  | [], s, _ => List.pairwise_singleton _ _
  | y :: l, s, h => by
    obtain ⟨h1, h2⟩ := List.pairwise_cons.1 h
    unfold insN
    split
    · exact h
    · rename_i hne
      split
      · rename_i hlt
        refine List.pairwise_cons.2 ⟨fun z hz => ?_, h⟩
        rcases List.mem_cons.1 hz with rfl | hz
        · exact hlt
        · exact ltS_trans hlt (h1 z hz)
      · rename_i hlt
        refine List.pairwise_cons.2 ⟨fun z hz => ?_, insN_str s h2⟩
        rcases (mem_insN l s z).1 hz with hz | rfl
        · exact h1 z hz
        · refine Classical.byContradiction fun hn => hne (ltS_tri hn hlt)
def normN (l : List ByteArray) : List ByteArray := l.foldl insN []
theorem normN_law : ∀ (l : List ByteArray) {a : List ByteArray}, StrS a → StrS (l.foldl insN a) ∧ ∀ x, x ∈ l.foldl insN a ↔ x ∈ a ∨ x ∈ l
  | [], a, h => ⟨h, fun x => by simp⟩
  | s :: l, a, h => by
    obtain ⟨h1, h2⟩ := normN_law l (insN_str s h)
    refine ⟨h1, fun x => ?_⟩
    rw [List.foldl_cons, h2, mem_insN, List.mem_cons, or_assoc]
theorem normN_str (l : List ByteArray) : StrS (normN l) := (normN_law l List.Pairwise.nil).1
theorem mem_normN (l : List ByteArray) (x : ByteArray) : x ∈ normN l ↔ x ∈ l := by
  have := (normN_law l (a := []) List.Pairwise.nil).2 x
  simpa [normN] using this
theorem normN_one {l l' : List ByteArray} (h : StrS l') (hm : ∀ x, x ∈ l' ↔ x ∈ l) : l' = normN l := strS_one h (normN_str l) fun x => (hm x).trans (mem_normN l x).symm
theorem normN_len : ∀ (l : List ByteArray), (normN l).length ≤ l.length := by
  have h1 : ∀ (l : List ByteArray) (s : ByteArray), (insN l s).length ≤ l.length + 1 := by
    intro l s
    induction l with
    | nil => exact Nat.le_refl _
    | cons y l ih => unfold insN; split; (simp only [List.length_cons]; omega); split; (simp only [List.length_cons]; omega); simp only [List.length_cons]; omega
  have h2 : ∀ (l a : List ByteArray), (l.foldl insN a).length ≤ a.length + l.length := by
    intro l
    induction l with
    | nil => intro a; exact Nat.le_refl _
    | cons s l ih => intro a; rw [List.foldl_cons, List.length_cons]; have := ih (insN a s); have := h1 a s; omega
  intro l
  have := h2 l []
  simpa [normN] using this
structure Ef where
  reads : List ByteArray
  writes : List ByteArray
  hosts : List ByteArray
  calls : Int
abbrev mostC : Int := 4611686018427387904
def bndC (n : Int) : Int := if n < 0 then 0 else if mostC < n then mostC else n
def sumC (a b : Int) : Int := if mostC < bndC a + bndC b then mostC else bndC a + bndC b
def joinE (a b : Ef) : Ef := ⟨normN (a.reads ++ b.reads), normN (a.writes ++ b.writes), normN (a.hosts ++ b.hosts), sumC a.calls b.calls⟩
def zeroE : Ef := ⟨[], [], [], 0⟩
def timesE (e : Ef) (n : Int) : Ef :=
  if n < 1 then zeroE else { joinE e zeroE with calls := if mostC / n < (joinE e zeroE).calls then mostC else (joinE e zeroE).calls * n }
end Sim

namespace Sim
open Go Go.Vc
theorem normN_id {l : List ByteArray} (h : StrS l) : normN l = l := (normN_one h fun _ => Iff.rfl).symm
theorem normN_nil (a : List ByteArray) : normN (a ++ []) = normN a := by rw [List.append_nil]
theorem bndC_range (n : Int) : 0 ≤ bndC n ∧ bndC n ≤ mostC := by unfold bndC mostC; split <;> (try split) <;> omega
theorem bndC_id {n : Int} (h : 0 ≤ n) (h2 : n ≤ mostC) : bndC n = n := by unfold bndC; rw [if_neg (by omega), if_neg (by omega)]
theorem sumC_range (a b : Int) : 0 ≤ sumC a b ∧ sumC a b ≤ mostC := by
  have h1 := bndC_range a
  have h2 := bndC_range b
  unfold sumC; split
  · unfold mostC; omega
  · omega
theorem sumC_eq {a b : Int} : sumC a b = if mostC < bndC a + bndC b then mostC else bndC a + bndC b := rfl
theorem sumC_zero (a : Int) : sumC a 0 = bndC a := by
  have h1 := bndC_range a
  have h2 : bndC 0 = 0 := rfl
  unfold sumC; rw [h2, if_neg (by omega), Int.add_zero]
end Sim

namespace Sim
open Go Go.Vc
theorem strs_rd {l : List (List UInt8)} {i : Nat} {x : List UInt8} (h : l[i]? = some x) (o : Nat) (ho : o = i) : rd false 1 (strsV l) o = some (.string (ofB x)) :=
  rd_one (c := (strsV l).toArray) (o := i) (by simp [strsV, h]) o ho
theorem wr_str1 : ∀ (l : List (List UInt8)) (k : Nat) (x : List UInt8), k < l.length → wr [Value.string (ofB x)] k (strsV l) = some (strsV (l.set k x))
  | [], k, x, h => by simp at h
  | y :: l, 0, x, _ => rfl
  | y :: l, k + 1, x, h => by
    have ih := wr_str1 l k x (by simpa using h)
    simp only [strsV, List.map_cons, wr, List.set_cons_succ] at ih ⊢
    rw [ih]
def ddN (l : List (List UInt8)) : Nat → List (List UInt8)
  | 0 => []
  | 1 => l.take 1
  | m + 2 => if l[m + 1]? = l[m]? then ddN l (m + 1) else ddN l (m + 1) ++ (l[m + 1]?).toList
theorem ddN_mem (l : List (List UInt8)) (x : List UInt8) : ∀ m, x ∈ ddN l m ↔ x ∈ l.take m
  | 0 => by simp [ddN]
  | 1 => by simp [ddN]
  | m + 2 => by
    have ih := ddN_mem l x (m + 1)
    simp only [ddN]
    rw [List.take_add_one (i := m + 1), List.mem_append, ← ih]
    split
    · rename_i h
      rw [h]
      constructor
      · exact .inl
      · rintro (h2 | h2)
        · exact h2
        · rw [ih, List.take_add_one, List.mem_append]; exact .inr h2
    · rw [List.mem_append]
theorem ddN_small (l : List (List UInt8)) (h : l.length < 2) : ddN l l.length = l := by
  match l, h with
  | [], _ => rfl
  | [a], _ => rfl
  | a :: b :: l, h => exact absurd h (by simp)
theorem le_of_pw : ∀ {l : List (List UInt8)} {i j : Nat} {x y : List UInt8}, l.Pairwise (· ≤ ·) → i < j → l[i]? = some x → l[j]? = some y → x ≤ y
  | [], i, j, x, y, _, _, h, _ => by simp at h
  | z :: l, 0, j + 1, x, y, h, _, h1, h2 => by
    simp at h1; subst h1
    rw [List.getElem?_cons_succ] at h2
    exact (List.pairwise_cons.1 h).1 y (List.mem_of_getElem? h2)
  | z :: l, i + 1, j + 1, x, y, h, h0, h1, h2 => by
    rw [List.getElem?_cons_succ] at h1 h2
    exact le_of_pw (List.pairwise_cons.1 h).2 (by omega) h1 h2
theorem ddN_at (l : List (List UInt8)) : ∀ m, ∀ x ∈ ddN l m, ∃ i, i < m ∧ l[i]? = some x
  | m, x, hx => by
    obtain ⟨i, hi⟩ := List.mem_iff_getElem?.1 ((ddN_mem l x m).1 hx)
    have hlt : i < m := by
      have := (List.getElem?_eq_some_iff.1 hi).1
      rw [List.length_take] at this
      omega
    exact ⟨i, hlt, by rw [List.getElem?_take_of_lt hlt] at hi; exact hi⟩
theorem ddN_pw {l : List (List UInt8)} (h : l.Pairwise (· ≤ ·)) : ∀ m, (ddN l m).Pairwise (· < ·)
  | 0 => List.Pairwise.nil
  | 1 => by
    match l with
    | [] => exact List.Pairwise.nil
    | [a] => exact List.pairwise_singleton _ _
    | a :: b :: l => simp [ddN]
  | m + 2 => by
    have ih := ddN_pw h (m + 1)
    simp only [ddN]
    split
    · exact ih
    · rename_i hne
      cases hx : l[m + 1]? with
      | none => simpa using ih
      | some x =>
        simp only [Option.toList_some]
        refine List.pairwise_append.2 ⟨ih, List.pairwise_singleton _ _, fun y hy z hz => ?_⟩
        rw [List.mem_singleton.1 hz]
        obtain ⟨i, hi, hy2⟩ := ddN_at l (m + 1) y hy
        have hle := le_of_pw h hi hy2 hx
        refine Classical.byContradiction fun hn => ?_
        have hxy : x ≤ y := List.not_lt.1 hn
        have e : y = x := List.le_antisymm hle hxy
        subst e
        obtain ⟨z, hz⟩ : ∃ z, l[m]? = some z := ⟨_, List.getElem?_eq_getElem (by have := (List.getElem?_eq_some_iff.1 hx).1; omega)⟩
        have h2 : z ≤ y := le_of_pw h (by omega) hz hx
        have h3 : y ≤ z := by
          by_cases e : i = m
          · subst e; rw [hz] at hy2; injection hy2 with e; rw [e]; exact List.le_refl _
          · exact le_of_pw h (by omega) hy2 hz
        exact hne (by rw [hx, hz, List.le_antisymm h2 h3])
theorem ddN_norm (l : List (List UInt8)) : (ddN (l.mergeSort fun x y => decide (x ≤ y)) l.length).map ofB = normN (l.map ofB) := by
  have hs : (l.mergeSort fun x y => decide (x ≤ y)).Pairwise (· ≤ ·) := by
    have := List.pairwise_mergeSort (le := fun x y : List UInt8 => decide (x ≤ y)) (fun a b c h1 h2 => by simp only [decide_eq_true_eq] at *; exact List.le_trans h1 h2) (fun a b => by simp only [Bool.or_eq_true, decide_eq_true_eq]; exact List.le_total a b) l
    exact this.imp fun h => by simpa using h
  refine normN_one (List.pairwise_map.2 ((ddN_pw hs _).imp fun h => h)) fun x => ?_
  have hm : ∀ y, y ∈ ddN (l.mergeSort fun x y => decide (x ≤ y)) l.length ↔ y ∈ l := fun y => by
    rw [ddN_mem, List.take_of_length_le (by rw [List.length_mergeSort]; exact Nat.le_refl _)]
    exact List.mem_mergeSort
  simp only [List.mem_map, hm]
end Sim

namespace Go.Proofs.YtfnjeldpfilplaaGreatDoor
open Go.Vc Sim
set_option maxHeartbeats 4000000
theorem compact_spec (w0 : World) (a : Option Addr) (cap : Nat) (l : List (List UInt8)) (hlen : l.length ≤ 1099511627776) :
    FnE PP w0 [] 76 [.slice a l.length cap] [SlA 9 1 a l.length cap (strsV l)] (.slice a (ddN l l.length).length cap) [SlA 9 1 a (ddN l l.length).length cap (strsV (ddN l l.length))] := by
  refine fn_of_run en76 fn76 rfl rfl rfl ?_
  by_cases h2 : l.length < 2
  · repeat' (first | refine zck ?_ | refine zcp (by kernel_rfl) ?_ | (refine zap rfl ?_; first | refine zan rfl ?_ | refine zan rfl ?_ | refine zce rfl ?_ | refine zbg rfl rfl (by omega) ?_) | refine zch ?_ | refine zci rfl ?_)
    rw [ddN_small l h2]
    exact ret_tmp1 rfl ⟨rfl, rfl⟩
  refine run_sl_cases 0 rfl (fun _ h _ _ => absurd h (by omega)) ?_
  intro bb q1 q2 q3
  subst q1
  repeat (first | refine zck ?_ | refine zcl ?_ | refine zcm ?_ | refine zcn ?_)
  first | refine zcp (by kernel_rfl) ?_ | refine zcq PP_mixed (by kernel_rfl) (by kernel_rfl) ?_
  repeat' (refine zap rfl ?_; first | refine zan rfl ?_)
  all_goals refine zch ?_
  all_goals repeat (first | refine zck ?_ | refine zcl ?_ | refine zcm ?_ | refine zcn ?_)
  repeat (first | refine zck ?_ | refine zcl ?_ | refine zcm ?_ | refine zcn ?_)
  first | refine zcp (by kernel_rfl) ?_ | refine zcq PP_mixed (by kernel_rfl) (by kernel_rfl) ?_
  repeat' (refine zap rfl ?_; first | refine zan rfl ?_ | refine zce rfl ?_ | refine zbh rfl rfl (by omega) ?_)
  all_goals refine zch ?_
  all_goals repeat (first | refine zck ?_ | refine zcl ?_ | refine zcm ?_ | refine zcn ?_)
  refine zcj rfl ?_
  repeat (first | refine zck ?_ | refine zcl ?_ | refine zcm ?_ | refine zcn ?_)
  first | refine zcp (by kernel_rfl) ?_ | refine zcq PP_mixed (by kernel_rfl) (by kernel_rfl) ?_
  repeat' (refine zap rfl ?_; first | refine zan rfl ?_)
  all_goals refine zch ?_
  all_goals repeat (first | refine zck ?_ | refine zcl ?_ | refine zcm ?_ | refine zcn ?_)
  refine run_loop (S := Nat) (fun k => [(0, .slice (some ⟨bb, 0, none⟩) l.length cap), (3, .int .i64 (k : Int))])
    (fun k Γ => Γ = [SlA 9 1 (some ⟨bb, 0, none⟩) l.length cap (strsV l)] ∧ 1 ≤ k ∧ k ≤ l.length ∧ ddN l k = l.take k) (fun k => l.length - k) 1 ⟨rfl, rfl, trivial⟩ ⟨rfl, Nat.le_refl _, by omega, rfl⟩ ?_
  rintro k Γ junk ⟨rfl, k1, k2, k3⟩
  by_cases hlt : k < l.length
  · obtain ⟨x, hx⟩ : ∃ x, l[k]? = some x := ⟨_, List.getElem?_eq_getElem hlt⟩
    obtain ⟨y, hy⟩ : ∃ y, l[k - 1]? = some y := ⟨_, List.getElem?_eq_getElem (by omega)⟩
    have hrx := strs_rd hx
    have hry := strs_rd hy
    obtain ⟨k, rfl⟩ : ∃ m, k = m + 1 := ⟨k - 1, by omega⟩
    simp only [Nat.add_sub_cancel] at hy hry
    by_cases hxy : x = y
    · subst hxy
      have hdd : ddN l (k + 2) = ddN l (k + 1) := by rw [ddN, hx, hy, if_pos rfl]
      repeat (first | refine zck ?_ | refine zcl ?_ | refine zcm ?_ | refine zcn ?_)
      first | refine zcp (by kernel_rfl) ?_ | refine zcq PP_mixed (by kernel_rfl) (by kernel_rfl) ?_
      repeat' (refine zap rfl ?_; first | refine zan rfl ?_ | refine zce rfl ?_ | refine zbg rfl rfl (by omega) ?_)
      all_goals refine zch ?_
      all_goals repeat (first | refine zck ?_ | refine zcl ?_ | refine zcm ?_ | refine zcn ?_)
      refine zci rfl ?_
      repeat (first | refine zck ?_ | refine zcl ?_ | refine zcm ?_ | refine zcn ?_)
      first | refine zcp (by kernel_rfl) ?_ | refine run_drawR PP_mixed (by kernel_rfl) (by kernel_rfl) ?_
      repeat' (refine zap rfl ?_; first | refine zag 0 rfl rfl (hrx _ (by omega)) (by intro h; cases h) ?_ | refine zag 0 rfl rfl (hry _ (by omega)) (by intro h; cases h) ?_ | refine reg_eqYT rfl rfl ?_ | refine zan rfl ?_ | refine zav rfl rfl (by omega) ?_ | refine zas rfl rfl (by omega) ?_)
      all_goals refine zch ?_
      all_goals repeat (first | refine zck ?_ | refine zcl ?_ | refine zcm ?_ | refine zcn ?_)
      refine zci rfl ?_
      repeat (first | refine zck ?_ | refine zcl ?_ | refine zcm ?_ | refine zcn ?_)
      first | refine zcp (by kernel_rfl) ?_ | refine zcq PP_mixed (by kernel_rfl) (by kernel_rfl) ?_
      repeat' (refine zap rfl ?_; first | refine reg_slice1 rfl rfl ⟨by omega, by omega⟩ (by omega) ?_ | refine zan rfl ?_ | refine zan rfl ?_)
      all_goals refine zch ?_
      all_goals repeat (first | refine zck ?_ | refine zcl ?_ | refine zcm ?_ | refine zcn ?_)
      repeat (first | refine zck ?_ | refine zcl ?_ | refine zcm ?_ | refine zcn ?_)
      first | refine zcp (by kernel_rfl) ?_ | refine zcq PP_mixed (by kernel_rfl) (by kernel_rfl) ?_
      repeat' (refine zap rfl ?_; first | refine zan rfl ?_)
      all_goals refine zch ?_
      all_goals repeat (refine zck ?_)
      refine run_bind_eq2 (σ := { C : List (List UInt8) // C.length = l.length ∧ (ddN l l.length).length < l.length ∧ C.take (ddN l l.length).length = ddN l l.length })
        (l' := fun _ => [(0, .slice (some ⟨bb, 0, none⟩) l.length cap), (3, .int .i64 ((ddN l l.length).length : Int))]) (Γ' := fun st => [SlA 9 1 (some ⟨bb, 0, none⟩) l.length cap (strsV st.1)]) ?_ ?_
      · refine zcl ?_
        refine run_loop (S := Nat × List (List UInt8)) (fun st => [(0, .slice (some ⟨bb, 0, none⟩) l.length cap), (3, .int .i64 ((ddN l (k + 1 + st.1)).length : Int)), (4, .slice (some ⟨bb, k + 1, none⟩) (l.length - (k + 1)) (cap - (k + 1))), (5, .int .i64 (st.1 : Int))])
          (fun st Γ => Γ = [SlA 9 1 (some ⟨bb, 0, none⟩) l.length cap (strsV st.2)] ∧ 1 ≤ st.1 ∧ k + 1 + st.1 ≤ l.length ∧ st.2.length = l.length ∧ (ddN l (k + 1 + st.1)).length < k + 1 + st.1 ∧
            st.2.take (ddN l (k + 1 + st.1)).length = ddN l (k + 1 + st.1) ∧ ∀ j, k + st.1 ≤ j → st.2[j]? = l[j]?) (fun st => l.length - st.1) (1, l)
          ⟨rfl, by dsimp only; rw [hdd, k3]; exact int_eq (by simp; omega), rfl, rfl, trivial⟩ ⟨rfl, Nat.le_refl _, by dsimp only; omega, rfl, by dsimp only; rw [hdd, k3]; simp; omega, by dsimp only; rw [hdd, k3]; simp, fun _ _ => rfl⟩ ?_
        rintro ⟨k2, C⟩ Γ junk ⟨rfl, g1, g2, g3, g4, g5, g6⟩
        dsimp only at g1 g2 g3 g4 g5 g6 ⊢
        generalize hK : (ddN l (k + 1 + k2)).length = K at g4 g5 ⊢
        have ek : k + 1 + (k2 + 1) = k + k2 + 2 := by omega
        have ek2 : k + k2 + 1 = k + 1 + k2 := by omega
        by_cases hl2 : k + 1 + k2 < l.length
        · obtain ⟨u, hu⟩ : ∃ u, l[k + k2 + 1]? = some u := ⟨_, List.getElem?_eq_getElem (by omega)⟩
          obtain ⟨v, hv⟩ : ∃ v, l[k + k2]? = some v := ⟨_, List.getElem?_eq_getElem (by omega)⟩
          have hru := strs_rd ((g6 (k + k2 + 1) (by omega)).trans hu)
          have hrv := strs_rd ((g6 (k + k2) (by omega)).trans hv)
          have hstep : ddN l (k + 1 + (k2 + 1)) = if u = v then ddN l (k + 1 + k2) else ddN l (k + 1 + k2) ++ [u] := by
            rw [ek, ddN, hu, hv, ek2]
            by_cases h : u = v
            · subst h; simp
            · simp [h]
          by_cases huv : u = v
          · subst huv
            rw [if_pos rfl] at hstep
            repeat' (first | refine zck ?_ | refine zcp (by kernel_rfl) ?_ | refine run_drawR PP_mixed (by kernel_rfl) (by kernel_rfl) ?_ | refine zcm ?_ | refine zcl ?_ | refine zcn ?_ | (refine zap rfl ?_; first | refine zag 0 rfl rfl (hru _ (by omega)) (by intro h; cases h) ?_ | refine zag 0 rfl rfl (hrv _ (by omega)) (by intro h; cases h) ?_ | refine reg_neB rfl rfl ?_ | refine zan rfl ?_ | refine zan rfl ?_ | refine zce rfl ?_ | refine zbg rfl rfl (by omega) ?_ | refine zau rfl rfl (by omega) ?_ | refine zav rfl rfl (by omega) ?_ | refine zas rfl rfl (by omega) ?_) | refine zch ?_ | refine zci rfl ?_ | refine zcj rfl ?_)
            exact cut_end ⟨rfl, (k2 + 1, C), ⟨rfl, by dsimp only; rw [hstep, hK]; rfl, rfl, int_eq (by dsimp only; omega), trivial⟩, ⟨rfl, by dsimp only; omega, by dsimp only; omega, g3, by dsimp only; rw [hstep, hK]; omega, by dsimp only; rw [hstep, hK]; exact g5, fun j hj => g6 j (by dsimp only at hj; omega)⟩, by dsimp only; omega⟩
          · rw [if_neg huv] at hstep
            have hKc : K < C.length := by omega
            have hw := wr_str1 C K u hKc
            have hw2 : ∀ o, o = K → wr [Value.string (ofB u)] o (strsV C) = some (strsV (C.set K u)) := fun o ho => ho ▸ hw
            repeat' (first | refine zck ?_ | refine zcp (by kernel_rfl) ?_ | refine run_drawR PP_mixed (by kernel_rfl) (by kernel_rfl) ?_ | refine zcm ?_ | refine zcl ?_ | refine zcn ?_ | (refine zap rfl ?_; first | refine zag 0 rfl rfl (hru _ (by omega)) (by intro h; cases h) ?_ | refine zag 0 rfl rfl (hrv _ (by omega)) (by intro h; cases h) ?_ | refine reg_neqYT rfl rfl (by assumption) ?_ | refine zaf 0 rfl rfl rfl rfl rfl (hw2 _ (by omega)) rfl ?_ | refine zan rfl ?_ | refine zan rfl ?_ | refine zce rfl ?_ | refine zbg rfl rfl (by omega) ?_ | refine zau rfl rfl (by omega) ?_ | refine zav rfl rfl (by omega) ?_ | refine zas rfl rfl (by omega) ?_) | refine zch ?_ | refine zci rfl ?_)
            have hl3 : (ddN l (k + 1 + (k2 + 1))).length = K + 1 := by rw [hstep, List.length_append, hK]; rfl
            refine cut_end ⟨rfl, (k2 + 1, C.set K u), ⟨rfl, by dsimp only; rw [hl3]; exact int_eq (by omega), rfl, int_eq (by dsimp only; omega), trivial⟩, ⟨rfl, by dsimp only; omega, by dsimp only; omega, by simpa using g3, by dsimp only; rw [hl3]; omega, ?_, fun j hj => ?_⟩, by dsimp only; omega⟩
            · dsimp only
              rw [hl3, hstep, List.take_add_one, List.take_set_of_le (Nat.le_refl _), g5]
              simp [hKc]
            · dsimp only at hj ⊢
              rw [List.getElem?_set_ne (by omega)]
              exact g6 j (by omega)
        · repeat' (first | refine zck ?_ | refine zcp (by kernel_rfl) ?_ | (refine zap rfl ?_; first | refine zan rfl ?_ | refine zce rfl ?_ | refine zbh rfl rfl (by omega) ?_) | refine zch ?_ | refine zcj rfl ?_)
          refine cut_exit rfl rfl ?_
          have e : k + 1 + k2 = l.length := by omega
          rw [e] at g4 g5 hK
          rw [hK]
          exact cut_end ⟨rfl, ⟨C, g3, by omega, g5⟩, ⟨rfl, rfl, trivial⟩, rfl⟩
      · rintro ⟨C, c1, c2, c3⟩ junk
        dsimp only
        generalize hK : ddN l l.length = D at c2 c3 ⊢
        have hDl : C.length = l.length := c1
        repeat' (first | refine zck ?_ | refine zcp (by kernel_rfl) ?_ | (refine zap rfl ?_; first | refine reg_slice1 rfl rfl ⟨by omega, by omega⟩ (by omega) ?_ | refine reg_slice2 rfl rfl ⟨by omega, by omega⟩ ?_ | refine reg_clear 0 rfl rfl rfl rfl (by omega) rfl ?_ | refine zan rfl ?_ | refine zan rfl ?_) | refine zch ?_)
        refine run_exch 0 (SlA 9 1 (some ⟨bb, 0, none⟩) D.length cap (strsV D)) rfl (fun g hg => ?_) rfl ?_
        · have h := SlA_cutc hg (q := D.length) (by omega)
          have e : (List.take D.length (strsV C) ++ List.replicate (l.length - D.length) (Value.string (ofB [])) ++ List.drop (D.length + (l.length - D.length)) (strsV C)).take (D.length * 1) = strsV D := by
            have h1 : (List.take D.length (strsV C)).length = D.length := by simp [strsV]; omega
            rw [Nat.mul_one, List.append_assoc, List.take_append_of_le_length (by omega), List.take_take, Nat.min_self]
            rw [strsV, ← List.map_take, c3]; rfl
          rw [← e]
          exact h
        exact qret1 (fun _ _ h => h) rfl ⟨rfl, rfl⟩
    · repeat' (first | refine zck ?_ | refine zcp (by kernel_rfl) ?_ | refine run_drawR PP_mixed (by kernel_rfl) (by kernel_rfl) ?_ | refine zcm ?_ | refine zcl ?_ | refine zcn ?_ | (refine zap rfl ?_; first | refine zag 0 rfl rfl (hrx _ (by omega)) (by intro h; cases h) ?_ | refine zag 0 rfl rfl (hry _ (by omega)) (by intro h; cases h) ?_ | refine reg_eqYF rfl rfl (by assumption) ?_ | refine zan rfl ?_ | refine zan rfl ?_ | refine zce rfl ?_ | refine zbg rfl rfl (by omega) ?_ | refine zau rfl rfl (by omega) ?_ | refine zav rfl rfl (by omega) ?_ | refine zas rfl rfl (by omega) ?_) | refine zch ?_ | refine zci rfl ?_ | refine zcj rfl ?_)
      refine cut_end ⟨rfl, k + 2, ⟨rfl, int_eq (by omega), trivial⟩, ⟨rfl, by omega, by omega, ?_⟩, by omega⟩
      rw [ddN, hx, hy, if_neg (by intro e; exact hxy (Option.some.inj e)), k3, List.take_add_one (i := k + 1), hx]
  · repeat' (first | refine zck ?_ | refine zcp (by kernel_rfl) ?_ | (refine zap rfl ?_; first | refine zan rfl ?_ | refine zce rfl ?_ | refine zbh rfl rfl (by omega) ?_) | refine zch ?_ | refine zcj rfl ?_)
    refine cut_exit rfl rfl ?_
    repeat' (first | refine zck ?_ | refine zcp (by kernel_rfl) ?_ | (refine zap rfl ?_; first | refine zan rfl ?_ | refine zan rfl ?_) | refine zch ?_)
    have e : k = l.length := by omega
    subst e
    rw [k3, List.take_length]
    exact ret_tmp1 rfl ⟨rfl, rfl⟩
end Go.Proofs.YtfnjeldpfilplaaGreatDoor

namespace Go.Vc
open Sim
def RdEf (w0 : World) (sh : Shared) (c : List Value) (e : Ef) : Prop := ∃ v1 v2 v3, c = [v1, v2, v3, .int .i64 e.calls] ∧ RdSl w0 sh encY 1 v1 e.reads ∧ RdSl w0 sh encY 1 v2 e.writes ∧ RdSl w0 sh encY 1 v3 e.hosts
theorem RdEf.mono {w0 : World} {sh sh' : Shared} {c : List Value} {e : Ef} (h : RdEf w0 sh c e) (hs : ∀ p ∈ sh, p ∈ sh') : RdEf w0 sh' c e := by
  obtain ⟨v1, v2, v3, h1, h2, h3, h4⟩ := h
  exact ⟨v1, v2, v3, h1, h2.mono hs, h3.mono hs, h4.mono hs⟩
def Ef.sm (n : Nat) (e : Ef) : Prop := e.reads.length ≤ n ∧ e.writes.length ≤ n ∧ e.hosts.length ≤ n
end Go.Vc
namespace Go.Proofs.YtfnjeldpfilplaaGreatDoor
open Go.Vc Sim
theorem bounded_spec (w0 : World) (x : Int) : FnE PP w0 [] 77 [.int .i64 x] [] (.int .i64 (bndC x)) [] := by
  refine fn_of_run en77 fn77 rfl rfl rfl ?_
  repeat' (first | refine zck ?_ | refine zcp (by kernel_rfl) ?_ | (refine zap rfl ?_; first | refine zan rfl ?_ | refine zan rfl ?_ | refine zcg rfl rfl ?_ | refine zcf rfl rfl ?_) | refine zch ?_)
  refine ret_tmp1 rfl ⟨int_eq ?_, rfl⟩
  unfold bndC mostC
  split <;> split <;> (try split) <;> omega
theorem sum_spec (w0 : World) (x y : Int) : FnE PP w0 [] 58 [.int .i64 x, .int .i64 y] [] (.int .i64 (sumC x y)) [] := by
  refine fn_of_run en58 fn58 rfl rfl rfl ?_
  have h1 := bndC_range x
  have h2 := bndC_range y
  have e := sumC_eq (a := x) (b := y)
  unfold mostC at h1 h2 e
  repeat' (first | refine zck ?_ | refine zcp (by kernel_rfl) ?_ | (refine zap rfl ?_; first | refine zan rfl ?_ | refine zan rfl ?_ | refine zah [] (bounded_spec w0 _) rfl rfl rfl sub_nil rfl ?_ | refine zav rfl rfl (by omega) ?_ | refine zbs rfl rfl ?_) | refine zch ?_)
  refine run_cond rfl (fun hE => ?_) (fun hE => ?_)
  · repeat' (first | refine zck ?_ | refine zcp (by kernel_rfl) ?_ | (refine zap rfl ?_; first | refine zan rfl ?_) | refine zch ?_)
    exact qret1 (fun _ _ h => h) rfl ⟨int_eq (by rw [e, if_pos (by omega)]), rfl⟩
  · repeat' (first | refine zck ?_ | refine zcp (by kernel_rfl) ?_ | refine zcm ?_ | (refine zap rfl ?_; first | refine zan rfl ?_ | refine zan rfl ?_ | refine zau rfl rfl (by omega) ?_) | refine zch ?_)
    exact ret_tmp1 rfl ⟨int_eq (by rw [e, if_neg (by omega)]), rfl⟩
theorem unlike_spec (w0 : World) (sh : Shared) (ob : Nat) (v1 v2 : Value) (l1 l2 : List ByteArray) (h1 : RdSl w0 sh encY 1 v1 l1) (h2 : RdSl w0 sh encY 1 v2 l2) (hn : l1.length + l2.length ≤ 60000)
    (hob : (ob, .cells (List.toArray [v1, v2]) 23 (0, 0)) ∈ sh) :
    Vc.Fn PP w0 sh 57 [.slice (some ⟨ob, 0, none⟩) 2 2] [] (fun v Γ => Γ = [Rds fun bl => RdSl w0 bl encY 1 v (normN (l1 ++ l2))]) := by
  have hv : RdSl w0 sh encV 1 (.slice (some ⟨ob, 0, none⟩) 2 2) [v1, v2] := RdSl.flat (l := [v1, v2]) (fun _ _ => rfl) hob
  have h3 : RdSs2 w0 sh [v1, v2] [unB l1, unB l2] := ⟨rfl, fun i v l hi hj => by
    match i with
    | 0 => cases hi; cases hj; exact h1.toB
    | 1 => cases hi; cases hj; exact h2.toB
    | i + 2 => simp at hi⟩
  have hfl : [unB l1, unB l2].flatten = unB (l1 ++ l2) := by simp [unB_append]
  obtain ⟨S, hS⟩ : ∃ S, S = (unB (l1 ++ l2)).mergeSort fun x y => decide (x ≤ y) := ⟨_, rfl⟩
  have hlen : S.length = l1.length + l2.length := by rw [hS, List.length_mergeSort, unB_len, List.length_append]
  have hul : (unB (l1 ++ l2)).length = S.length := by rw [hS, List.length_mergeSort]
  have hsum : sumLen [unB l1, unB l2] = S.length := by rw [← sumLen_flat, hfl, hul]
  have hd : (ddN S S.length).map ofB = normN (l1 ++ l2) := by
    have := ddN_norm (unB (l1 ++ l2))
    rw [unB_map, hul, ← hS] at this
    exact this
  have hdl : (normN (l1 ++ l2)).length = (ddN S S.length).length := by rw [← hd, List.length_map]
  have hcat := concat_spec w0 sh (some ⟨ob, 0, none⟩) 2 [v1, v2] [unB l1, unB l2] hv h3 (by rw [hsum]; omega) (by simp)
  rw [hsum, hfl] at hcat
  refine fn_of_run en57 fn57 rfl rfl rfl ?_
  repeat' (first | refine zck ?_ | refine zcp (by kernel_rfl) ?_ | (refine zap rfl ?_; first | refine zan rfl ?_ | refine zan rfl ?_ | (refine zai [] hcat rfl rfl rfl (fun _ h => h) ?_; rintro v Γ ⟨a0, c0, rfl, rfl⟩) | (refine zah [0] (sort_spec w0 _ _ _ (unB (l1 ++ l2)) (by omega) hul) rfl rfl rfl sub_nil rfl ?_; rw [← hS]) | refine zah [0] (compact_spec w0 _ _ S (by omega)) rfl rfl rfl sub_nil rfl ?_) | refine zch ?_)
  refine run_slR encY 0 (l := normN (l1 ++ l2)) rfl (by rw [strsV_y, hd]) (fun _ _ => rfl) hdl rfl ?_
  exact ret_tmp1 rfl rfl
end Go.Proofs.YtfnjeldpfilplaaGreatDoor

namespace Go.Vc
open Sim
abbrev encD (d : ByteArray × ByteArray) : List Value := [.string d.1, .string d.2]
def RdO (w0 : World) (sh : Shared) (o : PO) (cs : List Value) : Prop := ∃ vp vb, cs = [.string o.name, vp, vb] ∧ RdSl w0 sh encY 1 vp o.params ∧ RdSt w0 sh vb o.body
def RdOs (w0 : World) (sh : Shared) : List PO → List (List Value) → Prop
  | [], cl => cl = []
  | o :: l, cl => ∃ c cl', cl = c :: cl' ∧ RdO w0 sh o c ∧ RdOs w0 sh l cl'
def RdOl (w0 : World) (sh : Shared) (v : Value) (l : List PO) : Prop := ∃ cl, RdC w0 sh 3 v cl ∧ RdOs w0 sh l cl
def RdP (w0 : World) (sh : Shared) (v : Value) (p : PP') : Prop := ∃ vs vo, v = .agg #[vs, vo] ∧ RdSl w0 sh encD 2 vs p.stores ∧ RdOl w0 sh vo p.opers
section
variable {w0 : World} {sh sh' : Shared}
theorem RdO.mono {o : PO} {cs : List Value} (h : RdO w0 sh o cs) (hs : ∀ p ∈ sh, p ∈ sh') : RdO w0 sh' o cs := let ⟨vp, vb, h1, h2, h3⟩ := h; ⟨vp, vb, h1, h2.mono hs, h3.mono hs⟩
theorem RdOs.mono (hs : ∀ p ∈ sh, p ∈ sh') : ∀ {l : List PO} {cl : List (List Value)}, RdOs w0 sh l cl → RdOs w0 sh' l cl
  | [], _, h => h
  | _ :: _, _, h => let ⟨c, cl', h1, h2, h3⟩ := h; ⟨c, cl', h1, h2.mono hs, RdOs.mono hs h3⟩
theorem RdOl.mono {v : Value} {l : List PO} (h : RdOl w0 sh v l) (hs : ∀ p ∈ sh, p ∈ sh') : RdOl w0 sh' v l := let ⟨cl, h1, h2⟩ := h; ⟨cl, h1.mono hs, h2.mono hs⟩
theorem RdP.mono {v : Value} {p : PP'} (h : RdP w0 sh v p) (hs : ∀ p ∈ sh, p ∈ sh') : RdP w0 sh' v p := let ⟨vs, vo, h1, h2, h3⟩ := h; ⟨vs, vo, h1, h2.mono hs, h3.mono hs⟩
theorem RdOs.len : ∀ {l : List PO} {cl : List (List Value)}, RdOs w0 sh l cl → cl.length = l.length
  | [], _, h => by rw [show _ = [] from h]; rfl
  | _ :: l, _, h => by
    obtain ⟨c, cl', h1, h2, h3⟩ := h
    rw [h1, List.length_cons, List.length_cons, RdOs.len h3]
theorem RdOs.at : ∀ {l : List PO} {cl : List (List Value)}, RdOs w0 sh l cl → ∀ {i : Nat} {e : PO}, l[i]? = some e → ∃ c, cl[i]? = some c ∧ RdO w0 sh e c
  | [], _, _, i, e, he => by simp at he
  | _ :: l, _, h, i, e, he => by
    obtain ⟨c, cl', h1, h2, h3⟩ := h
    subst h1
    cases i with
    | zero => simp at he; subst he; exact ⟨c, rfl, h2⟩
    | succ i => rw [List.getElem?_cons_succ] at he ⊢; exact RdOs.at h3 he
theorem RdOl.len {v : Value} {l : List PO} (h : RdOl w0 sh v l) : ∃ a cap, v = .slice a l.length cap ∧ l.length ≤ cap := by
  obtain ⟨cl, h1, h2⟩ := h
  obtain ⟨a, cap, e, hc, _⟩ := id h1
  rw [h2.len] at e hc
  exact ⟨a, cap, e, hc⟩
theorem RdOl.at {a : Option Addr} {len cap : Nat} {l : List PO} (h : RdOl w0 sh (.slice a len cap) l) {i : Nat} {e : PO} (he : l[i]? = some e) :
    ∃ b off c T fr cs, a = some ⟨b, off, none⟩ ∧ (∀ hF Γ w, Sh sh hF → St w0 hF Γ w → w.heap[b]? = some (.cells c T fr)) ∧ (∀ o, o = off + i * 3 → rd true 3 c.toList o = some (.agg (List.toArray cs))) ∧ RdO w0 sh e cs ∧ (∀ k u, cs[k]? = some u → ∀ o, o = off + i * 3 + k → rd false 1 c.toList o = some u) := by
  obtain ⟨cl, h1, h2⟩ := h
  obtain ⟨c0, h3, h4⟩ := h2.at he
  obtain ⟨b, off, c, T, fr, e1, e2, e3, e4⟩ := h1.cells h3
  exact ⟨b, off, c, T, fr, c0, e1, e2, e3, h4, e4⟩
end
end Go.Vc

namespace Sim
def ixZ (s : ByteArray) : List ByteArray → Int → Int
  | [], _ => -1
  | x :: l, k => if s = x then k else ixZ s l (k + 1)
theorem ixZ_in (s : ByteArray) : ∀ (l : List ByteArray) (k : Int), 0 ≤ k → decide (0 ≤ ixZ s l k) = inS l s
  | [], k, _ => by simp [ixZ, inS]
  | x :: l, k, h => by
    have ih := ixZ_in s l (k + 1) (by omega)
    by_cases e : s = x
    · have e1 : ixZ s (x :: l) k = k := by rw [ixZ, if_pos e]
      rw [e1]; subst e; simp [inS, h]
    · have e1 : ixZ s (x :: l) k = ixZ s l (k + 1) := by rw [ixZ, if_neg e]
      rw [e1, ih]
      simp only [inS, List.any_cons]
      rw [decide_eq_false (p := x = s) (fun h => e h.symm), Bool.false_or]
theorem ixZ_ixS (s : ByteArray) : ∀ (l : List ByteArray) (i : Nat), ixZ s l i = match ixS l s i with | some j => (j : Int) | none => -1
  | [], i => rfl
  | x :: l, i => by
    have ih := ixZ_ixS s l (i + 1)
    simp only [ixZ, ixS] at ih ⊢
    by_cases e : s = x
    · subst e; simp
    · rw [if_neg e, if_neg (fun h => e h.symm), ← ih]; rfl
end Sim
namespace Go.Vc
open Sim
def kwCells : List Value := kwL.flatMap encY
def KwOk (w0 : World) : Prop := ∃ T fr, w0.heap[2]? = some (.cells (List.toArray kwCells) T fr)
theorem KwOk.rd {w0 : World} (h : KwOk w0) (sh : Shared) : RdSl w0 sh encY 1 (.slice (some ⟨2, 0, none⟩) 14 14) kwL := by
  obtain ⟨T, fr, h⟩ := h
  refine ⟨_, 14, rfl, Nat.le_refl _, .inr ⟨2, 0, _, T, fr, rfl, fun hF Γ w _ hst => (hst.base (Array.getElem?_eq_some_iff.1 h).1).trans h, fun i x hx => ⟨rfl, fun k u hu => ?_⟩⟩⟩
  have := flat_at (encE := encY) (q := 1) kwL (fun _ _ => rfl) i x hx k u hu
  simpa [kwCells] using this
end Go.Vc
namespace Go.Proofs.YtfnjeldpfilplaaGreatDoor
open Go.Vc Sim
theorem index_spec (w0 : World) (sh : Shared) (a : Option Addr) (cap : Nat) (l : List ByteArray) (s : ByteArray) (hl : RdSl w0 sh encY 1 (.slice a l.length cap) l) (hb : l.length ≤ 1099511627776) :
    FnE PP w0 sh 39 [.slice a l.length cap, .string s] [] (.int .i64 (ixZ s l 0)) [] := by
  refine fn_of_run en39 fn39 rfl rfl rfl ?_
  repeat' (first | refine zck ?_ | refine zcp (by kernel_rfl) ?_ | refine zcl ?_ | (refine zap rfl ?_; first | refine zan rfl ?_ | refine zan rfl ?_ | refine zce rfl ?_) | refine zch ?_)
  refine run_loop (S := Nat) (fun j => [(0, .slice a l.length cap), (1, .string s), (7, .int .i64 l.length), (8, .int .i64 j)])
    (fun j Γ => Γ = [] ∧ j ≤ l.length ∧ ixZ s (l.drop j) j = ixZ s l 0) (fun j => l.length - j) 0 ⟨rfl, rfl, rfl, rfl, trivial⟩ ⟨rfl, by omega, rfl⟩ ?_
  rintro j Γ junk ⟨rfl, g1, g2⟩
  by_cases hj : j < l.length
  · obtain ⟨x, hx⟩ : ∃ x, l[j]? = some x := ⟨_, List.getElem?_eq_getElem hj⟩
    obtain ⟨b, off, c, T, fr, rfl, e2, _, e3⟩ := hl.cells hx
    have hd : l.drop j = x :: l.drop (j + 1) := by
      rw [List.drop_eq_getElem_cons hj]
      congr 1
      exact (List.getElem?_eq_some_iff.1 hx).2
    rw [hd, ixZ] at g2
    by_cases hs : s = x
    · rw [if_pos hs] at g2
      repeat' (first | refine zck ?_ | refine zcp (by kernel_rfl) ?_ | refine zcm ?_ | refine zcl ?_ | (refine zap rfl ?_; first | refine zad rfl e2 (e3 0 _ rfl _ (by omega)) ?_ | refine reg_eqST rfl rfl hs ?_ | refine zan rfl ?_ | refine zan rfl ?_ | refine zbg rfl rfl (by omega) ?_ | refine zas rfl rfl (by omega) ?_) | refine zch ?_ | refine zci rfl ?_)
      exact qret1 (fun _ _ h => h) rfl ⟨by rw [← g2]; rfl, rfl⟩
    · rw [if_neg hs] at g2
      repeat' (first | refine zck ?_ | refine zcp (by kernel_rfl) ?_ | refine zcm ?_ | refine zcl ?_ | refine zcn ?_ | (refine zap rfl ?_; first | refine zad rfl e2 (e3 0 _ rfl _ (by omega)) ?_ | refine reg_eqSF rfl rfl hs ?_ | refine zan rfl ?_ | refine zan rfl ?_ | refine zbg rfl rfl (by omega) ?_ | refine zau rfl rfl (by omega) ?_ | refine zas rfl rfl (by omega) ?_) | refine zch ?_ | refine zci rfl ?_ | refine zcj rfl ?_)
      exact cut_end ⟨rfl, j + 1, ⟨rfl, rfl, rfl, int_eq (by omega), trivial⟩, ⟨rfl, by omega, by rw [← g2]; rfl⟩, by omega⟩
  · repeat' (first | refine zck ?_ | refine zcp (by kernel_rfl) ?_ | (refine zap rfl ?_; first | refine zbh rfl rfl (by omega) ?_) | refine zch ?_ | refine zcj rfl ?_)
    refine cut_exit rfl rfl ?_
    repeat' (first | refine zck ?_ | refine zcp (by kernel_rfl) ?_ | (refine zap rfl ?_; first | refine zan rfl ?_) | refine zch ?_)
    rw [List.drop_of_length_le (by omega)] at g2
    exact ret_tmp1 rfl ⟨by rw [← g2]; rfl, rfl⟩
theorem contains_spec (w0 : World) (sh : Shared) (a : Option Addr) (cap : Nat) (l : List ByteArray) (s : ByteArray) (hl : RdSl w0 sh encY 1 (.slice a l.length cap) l) (hb : l.length ≤ 1099511627776) :
    FnE PP w0 sh 67 [.slice a l.length cap, .string s] [] (.bool (inS l s)) [] := by
  refine fn_of_run en67 fn67 rfl rfl rfl ?_
  repeat' (first | refine zck ?_ | refine zcp (by kernel_rfl) ?_ | (refine zap rfl ?_; first | refine zan rfl ?_ | refine zan rfl ?_ | refine zah [] (index_spec w0 sh a cap l s hl hb) rfl rfl rfl (fun _ h => h) rfl ?_ | refine zbt rfl rfl ?_) | refine zch ?_)
  exact ret_tmp1 rfl ⟨bool_eq (ixZ_in s l 0 (Int.le_refl _)), rfl⟩
theorem contains_v (w0 : World) (sh : Shared) (v : Value) (l : List ByteArray) (s : ByteArray) (hl : RdSl w0 sh encY 1 v l) (hb : l.length ≤ 1099511627776) :
    FnE PP w0 sh 67 [v, .string s] [] (.bool (inS l s)) [] := by
  obtain ⟨a, cap, e, _⟩ := id hl
  subst e
  exact contains_spec w0 sh a cap l s hl hb
theorem clone_spec (w0 : World) (sh : Shared) (b cap : Nat) (l : List ByteArray) (hl : RdSl w0 sh encY 1 (.slice (some ⟨b, 0, none⟩) l.length cap) l) (hb : l.length ≤ 1000000) :
    Vc.Fn PP w0 sh 83 [.slice (some ⟨b, 0, none⟩) l.length cap] [] (fun v Γ => ∃ a c, v = .slice a l.length c ∧ Γ = [SlA 9 1 a l.length c (l.flatMap encY)]) := by
  have h1 : allOne (l.flatMap encY) = true := by
    rw [← unB_map l, ← strsV_y]; exact strsV_one _
  refine fn_of_run en83 fn83 rfl rfl rfl ?_
  repeat' (first | refine zck ?_ | refine zcp (by kernel_rfl) ?_ | refine zcm ?_ | (refine zap rfl ?_; first | refine reg_eq_sl1 rfl rfl ?_ | refine reg_buildSlice rfl rfl rfl rfl rfl rfl (fun nb => ?_) | refine zan rfl ?_ | refine zan rfl ?_ | (refine reg_own 0 rfl rfl (len := 0) (cap := 0) (sz := 1) ⟨rfl, Nat.le_refl _, Nat.le_refl _⟩ rfl ?_; refine reg_append_rdE 0 rfl rfl hl (by decide) h1 rfl rfl (by omega) (fun _ _ => rfl) (fun a3 c3 => ?_))) | refine zch ?_ | refine zcj rfl ?_)
  rw [Nat.zero_add]
  exact ret_tmp1 rfl ⟨_, _, rfl, rfl⟩
theorem keywords_spec (w0 : World) (hk : KwOk w0) : Vc.Fn PP w0 [] 68 [] [] (fun v Γ => Γ = [Rds fun bl => RdSl w0 bl encY 1 v kwL]) := by
  refine fn_of_run en68 fn68 rfl rfl rfl ?_
  repeat' (first | refine zck ?_ | refine zcp (by kernel_rfl) ?_ | (refine zap rfl ?_; first | refine reg_slice_arr rfl (by decide) ?_ | refine zan rfl ?_ | (refine zai [] (clone_spec w0 [] 2 14 kwL (hk.rd _) (by decide)) rfl rfl rfl sub_nil ?_; rintro v Γ ⟨a, c, rfl, rfl⟩)) | refine zch ?_)
  refine run_slR encY 0 (l := kwL) rfl rfl (fun _ _ => rfl) rfl rfl ?_
  exact ret_tmp1 rfl rfl
theorem charsB_at {l : List UInt8} {i : Nat} {b : UInt8} (hb : l[i]? = some b) : charsB i (l.drop i) = ((letterB b.toNat || (decide (i ≠ 0) && digitB b.toNat)) && charsB (i + 1) (l.drop (i + 1))) := by
  have hi := (List.getElem?_eq_some_iff.1 hb).1
  rw [List.drop_eq_getElem_cons hi, charsB, (List.getElem?_eq_some_iff.1 hb).2]
set_option maxHeartbeats 4000000 in
theorem isName_spec (w0 : World) (hk : KwOk w0) (s : ByteArray) : FnE PP w0 [] 51 [.string s] [] (.bool (nameB s)) [] := by
  obtain ⟨B, hB⟩ : ∃ B, inS kwL s = B := ⟨_, rfl⟩
  have hc : ∀ sh' v, RdSl w0 sh' encY 1 v kwL → FnE PP w0 sh' 67 [v, .string s] [] (.bool B) [] := fun sh' v h => by rw [← hB]; exact contains_v w0 sh' v kwL s h (by decide)
  refine fn_of_run en51 fn51 rfl rfl rfl ?_
  by_cases h0 : s = ⟨#[]⟩
  · have h1 : nameB s = false := by unfold nameB; rw [decide_eq_true (size_bs.2 h0)]; rfl
    rw [h1]
    repeat' (first | refine zck ?_ | refine zcp (by kernel_rfl) ?_ | (refine zap rfl ?_; first | refine reg_eqST rfl rfl (by assumption) ?_ | refine zak rfl ?_ | refine zan rfl ?_ | refine zan rfl ?_ | refine zbu rfl ?_) | refine zch ?_ | refine zci rfl ?_)
    exact ret_tmp1 rfl ⟨rfl, rfl⟩
  by_cases h24 : 24 < s.size
  · have h1 : nameB s = false := by unfold nameB; rw [decide_eq_true h24]; simp
    rw [h1]
    repeat' (first | refine zck ?_ | refine zcp (by kernel_rfl) ?_ | (refine zap rfl ?_; first | refine reg_eqSF rfl rfl (by assumption) ?_ | refine zaj rfl ?_ | refine zak rfl ?_ | refine zan rfl ?_ | refine zan rfl ?_ | refine reg_lenS rfl ?_ | refine zbk rfl rfl (by omega) ?_ | refine zbu rfl ?_ | refine zbv rfl ?_) | refine zch ?_ | refine zci rfl ?_)
    refine run_take [] rfl ?_
    exact ret_tmp1 rfl ⟨rfl, rfl⟩
  cases B with
  | true =>
    have h1 : nameB s = false := by unfold nameB; rw [hB]; simp
    rw [h1]
    repeat' (first | refine zck ?_ | refine zcp (by kernel_rfl) ?_ | (refine zap rfl ?_; first | refine reg_eqSF rfl rfl (by assumption) ?_ | refine zaj rfl ?_ | refine zan rfl ?_ | refine zan rfl ?_ | refine reg_lenS rfl ?_ | (refine zai [] (keywords_spec w0 hk) rfl rfl rfl sub_nil ?_; rintro v Γ rfl) | (refine zai [0] (Fn.lendR en67 (fun sh' bl h1 h2 h3 => hc sh' _ (h3.mono h2))) rfl rfl rfl sub_nil ?_; rintro v Γ ⟨_, ⟨rfl, rfl⟩, rfl⟩) | refine zbl rfl rfl (by omega) ?_ | refine zbv rfl ?_) | refine zch ?_ | refine zci rfl ?_)
    refine run_take [] rfl ?_
    exact ret_tmp1 rfl ⟨rfl, rfl⟩
  | false =>
    have h1 : nameB s = charsB 0 s.data.toList := by
      have h2 : ¬ s.size = 0 := fun e => h0 (size_bs.1 e)
      unfold nameB; rw [hB, decide_eq_false h2, decide_eq_false h24]; rfl
    rw [h1]
    clear h1
    repeat' (first | refine zck ?_ | refine zcp (by kernel_rfl) ?_ | refine zcm ?_ | refine zcl ?_ | (refine zap rfl ?_; first | refine reg_eqSF rfl rfl (by assumption) ?_ | refine reg_bytesS rfl (fun nb cap spare fr => ?_) | refine zaj rfl ?_ | refine zan rfl ?_ | refine zan rfl ?_ | refine reg_lenS rfl ?_ | (refine zai [] (keywords_spec w0 hk) rfl rfl rfl sub_nil ?_; rintro v Γ rfl) | (refine zai [0] (Fn.lendR en67 (fun sh' bl h1 h2 h3 => hc sh' _ (h3.mono h2))) rfl rfl rfl sub_nil ?_; rintro v Γ ⟨_, ⟨rfl, rfl⟩, rfl⟩) | refine zce rfl ?_ | refine zbl rfl rfl (by omega) ?_ | refine zbv rfl ?_) | refine zch ?_ | refine zcj rfl ?_)
    refine run_take [0] rfl ?_
    obtain ⟨c, hcc⟩ : ∃ c, c = bytesV s ++ spare := ⟨_, rfl⟩
    rw [← hcc]
    refine run_share [0] rfl ?_
    have hsz : s.data.toList.length = s.size := by simp
    refine run_loop (S := Nat) (fun j => [(0, .string s), (19, .slice (some ⟨nb, 0, none⟩) s.size cap), (20, .int .i64 s.size), (21, .int .i64 j)])
      (fun j Γ => Γ = [] ∧ j ≤ s.size ∧ charsB j (s.data.toList.drop j) = charsB 0 s.data.toList) (fun j => s.size - j) 0 ⟨rfl, rfl, rfl, rfl, trivial⟩ ⟨rfl, by omega, rfl⟩ ?_
    rintro j Γ junk ⟨rfl, g1, g2⟩
    by_cases hj : j < s.size
    · obtain ⟨b, hb⟩ : ∃ b, s.data.toList[j]? = some b := ⟨_, List.getElem?_eq_getElem (by omega)⟩
      have hr : ∀ o, o = 0 + j * 1 → rd false 1 c o = some (.int .u8 (b.toNat : Int)) := fun o h => by rw [hcc]; exact bytesV_rd (spare := spare) hb o h
      rw [charsB_at hb] at g2
      have hbt : b.toNat < 256 := b.toNat_lt
      generalize hN : b.toNat = N at g2 hbt hr
      by_cases hL : letterB N = true
      · rw [hL] at g2
        have h3 : N = 95 ∨ (97 ≤ N ∧ N ≤ 122) ∨ (65 ≤ N ∧ N ≤ 90) := by
          unfold letterB at hL
          simp at hL
          omega
        rcases h3 with h3 | h3 | h3
        all_goals
          repeat' (first | refine zck ?_ | refine zcp (by kernel_rfl) ?_ | refine zcm ?_ | refine zcl ?_ | refine zcn ?_ | (refine zap rfl ?_; first | refine zaa 0 rfl rfl (hr _ (by omega)) ?_ | refine zaj rfl ?_ | refine zak rfl ?_ | refine zal rfl ?_ | refine zan rfl ?_ | refine zan rfl ?_ | refine zbc rfl rfl (by omega) ?_ | refine zbd rfl rfl (by omega) ?_ | refine zbg rfl rfl (by omega) ?_ | refine zbi rfl rfl (by omega) ?_ | refine zbm rfl rfl (by omega) ?_ | refine zbn rfl rfl (by omega) ?_ | refine zau rfl rfl (by omega) ?_ | refine zbx rfl ?_ | refine zbu rfl ?_ | refine zbv rfl ?_ | refine zas rfl rfl (by omega) ?_) | refine zch ?_ | refine zci rfl ?_ | refine zcj rfl ?_)
          rw [Bool.true_or, Bool.true_and] at g2
          exact cut_end ⟨rfl, j + 1, ⟨rfl, rfl, rfl, int_eq (by omega), trivial⟩, ⟨rfl, by omega, g2⟩, by omega⟩
      · have hL : letterB N = false := by simpa using hL
        rw [hL, Bool.false_or] at g2
        have h3 : N ≠ 95 ∧ ¬ (97 ≤ N ∧ N ≤ 122) ∧ ¬ (65 ≤ N ∧ N ≤ 90) := by
          unfold letterB at hL
          simp at hL
          omega
        by_cases hj0 : j = 0
        · rw [decide_eq_false (by omega), Bool.false_and, Bool.false_and] at g2
          have h4 : N < 65 ∨ (90 < N ∧ N < 97) ∨ 122 < N := by omega
          rcases h4 with h4 | h4 | h4
          all_goals
            rw [← g2]
            repeat' (first | refine zck ?_ | refine zcp (by kernel_rfl) ?_ | refine zcm ?_ | refine zcl ?_ | (refine zap rfl ?_; first | refine zaa 0 rfl rfl (hr _ (by omega)) ?_ | refine zaj rfl ?_ | refine zak rfl ?_ | refine zan rfl ?_ | refine zan rfl ?_ | refine zbc rfl rfl (by omega) ?_ | refine zbd rfl rfl (by omega) ?_ | refine zbg rfl rfl (by omega) ?_ | refine zbj rfl rfl (by omega) ?_ | refine zbm rfl rfl (by omega) ?_ | refine zbn rfl rfl (by omega) ?_ | refine zbx rfl ?_ | refine zbu rfl ?_ | refine zbv rfl ?_ | refine zas rfl rfl (by omega) ?_) | refine zch ?_ | refine zci rfl ?_)
            exact qret1 (fun _ _ h => h) rfl ⟨rfl, rfl⟩
        rw [decide_eq_true (by omega), Bool.true_and] at g2
        by_cases hd : 48 ≤ N ∧ N ≤ 57
        · have hd2 : digitB N = true := by unfold digitB; simp; omega
          rw [hd2, Bool.true_and] at g2
          repeat' (first | refine zck ?_ | refine zcp (by kernel_rfl) ?_ | refine zcm ?_ | refine zcl ?_ | refine zcn ?_ | (refine zap rfl ?_; first | refine zaa 0 rfl rfl (hr _ (by omega)) ?_ | refine zaj rfl ?_ | refine zak rfl ?_ | refine zan rfl ?_ | refine zan rfl ?_ | refine zbd rfl rfl (by omega) ?_ | refine zbg rfl rfl (by omega) ?_ | refine zbh rfl rfl (by omega) ?_ | refine zbl rfl rfl (by omega) ?_ | refine zbn rfl rfl (by omega) ?_ | refine zau rfl rfl (by omega) ?_ | refine zbx rfl ?_ | refine zbu rfl ?_ | refine zbv rfl ?_ | refine zas rfl rfl (by omega) ?_) | refine zch ?_ | refine zci rfl ?_ | refine zcj rfl ?_)
          exact cut_end ⟨rfl, j + 1, ⟨rfl, rfl, rfl, int_eq (by omega), trivial⟩, ⟨rfl, by omega, g2⟩, by omega⟩
        · have hd2 : digitB N = false := by unfold digitB; simp; omega
          rw [hd2, Bool.false_and] at g2
          have h4 : N < 48 ∨ (57 < N ∧ N < 65) ∨ (90 < N ∧ N < 97) ∨ 122 < N := by omega
          rcases h4 with h4 | h4 | h4 | h4
          all_goals
            rw [← g2]
            repeat' (first | refine zck ?_ | refine zcp (by kernel_rfl) ?_ | refine zcm ?_ | refine zcl ?_ | (refine zap rfl ?_; first | refine zaa 0 rfl rfl (hr _ (by omega)) ?_ | refine zaj rfl ?_ | refine zak rfl ?_ | refine zan rfl ?_ | refine zan rfl ?_ | refine zbd rfl rfl (by omega) ?_ | refine zbg rfl rfl (by omega) ?_ | refine zbh rfl rfl (by omega) ?_ | refine zbj rfl rfl (by omega) ?_ | refine zbk rfl rfl (by omega) ?_ | refine zbm rfl rfl (by omega) ?_ | refine zbn rfl rfl (by omega) ?_ | refine zbx rfl ?_ | refine zbu rfl ?_ | refine zbv rfl ?_ | refine zas rfl rfl (by omega) ?_) | refine zch ?_ | refine zci rfl ?_)
            exact qret1 (fun _ _ h => h) rfl ⟨rfl, rfl⟩
    · repeat' (first | refine zck ?_ | refine zcp (by kernel_rfl) ?_ | (refine zap rfl ?_; first | refine zbh rfl rfl (by omega) ?_) | refine zch ?_ | refine zcj rfl ?_)
      refine cut_exit rfl rfl ?_
      repeat' (first | refine zck ?_ | refine zcp (by kernel_rfl) ?_ | (refine zap rfl ?_; first | refine zan rfl ?_) | refine zch ?_)
      rw [List.drop_of_length_le (by omega)] at g2
      exact ret_tmp1 rfl ⟨by rw [← g2]; rfl, rfl⟩
end Go.Proofs.YtfnjeldpfilplaaGreatDoor

