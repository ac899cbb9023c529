import Derived.Lib.ItoaNum
import Derived.Test.YtikackodhiollaaGreatDoorPart2
import Derived.Test.YtikackodhiollaaGreatDoorKitA
import Derived.Test.YtikackodhiollaaGreatDoorKit
import Derived.Test.YtikackodhiollaaGreatDoorPart1
/- Own work: lemmas of this claim. -/
namespace Go.Proofs.YtikackodhiollaaGreatDoor
variable (w0 : World)
open Go.Vc
open Go.Sort (ltStr swp bitsLen Hint insertionSort heapSort breakPatterns choosePivot reverseRange partialInsertionSort partitionEqual partition pdq)
def PdqAt (w0 : World) (bb N cap a b limit : Nat) (D : Array (List UInt8)) : Prop :=
 FnE PP w0 [] 82 [.slice (some ⟨bb, 0, none⟩) N cap, .int .i64 a, .int .i64 b, .int .i64 limit] [DatS 9 bb N cap D] (.tuple #[]) [DatS 9 bb N cap (pdq ltStr D a b limit true true)]
set_option maxHeartbeats 4000000
theorem pdq_spec (bb N cap : Nat) (hN : N < 65536) : ∀ (m a b limit : Nat) (D : Array (List UInt8)), b - a ≤ m → a ≤ b → b ≤ N → limit ≤ 1000 → D.size = N → PdqAt w0 bb N cap a b limit D := by
 intro m
 induction m with
 | zero =>
   intro a b limit D hm hab hb hl hD
   unfold PdqAt
   refine zep en82 fn82 rfl rfl rfl ?_
   repeat' (first|refine zck ?_|refine zcp (by kernel_rfl) ?_|refine zcl ?_|(refine zap rfl ?_; first|refine zan rfl ?_)|refine zch ?_)
   refine zet ?_
   repeat' (first|refine zck ?_|refine zcp (by kernel_rfl) ?_|refine zcl ?_|(refine zap rfl ?_; first|refine zan rfl ?_|refine zan rfl ?_|refine zah [0] (ins_spec w0 bb N cap D a b (by omega) hab hb hD) rfl rfl rfl zdj rfl ?_|refine zbi rfl rfl (by omega) ?_|refine zav rfl rfl (by omega) ?_)|refine zch ?_|refine zci rfl ?_)
   rw [pdq_small (by omega)]
   exact qret0 (fun _ _ h => h) rfl ⟨rfl, rfl⟩
 | succ m ih =>
   intro a b limit D hm hab hb hl hD
   unfold PdqAt
   refine zep en82 fn82 rfl rfl rfl ?_
   repeat' (first|refine zck ?_|refine zcp (by kernel_rfl) ?_|refine zcl ?_|(refine zap rfl ?_; first|refine zan rfl ?_)|refine zch ?_)
   refine run_loop (S := Nat × Nat × Nat × Bool × Bool × Array (List UInt8)) (fun s => [(0, .slice (some ⟨bb, 0, none⟩) N cap), (1, .int .i64 s.1), (2, .int .i64 s.2.1), (3, .int .i64 s.2.2.1), (8, .bool s.2.2.2.1), (9, .bool s.2.2.2.2.1)])
     (fun s Γ => Γ = [DatS 9 bb N cap s.2.2.2.2.2] ∧ s.2.1 - s.1 ≤ m + 1 ∧ s.1 ≤ s.2.1 ∧ s.2.1 ≤ N ∧ s.2.2.1 ≤ 1000 ∧ s.2.2.2.2.2.size = N ∧ pdq ltStr s.2.2.2.2.2 s.1 s.2.1 s.2.2.1 s.2.2.2.1 s.2.2.2.2.1 = pdq ltStr D a b limit true true)
     (fun s => s.2.1 - s.1) (a, b, limit, true, true, D) ⟨rfl, rfl, rfl, rfl, rfl, rfl, trivial⟩ ⟨rfl, hm, hab, hb, hl, hD, rfl⟩ ?_
   generalize pdq ltStr D a b limit true true = RR
   clear hD hl hb hab hm D a b limit
   rintro ⟨a, b, limit, wb, wp, D⟩ Γ junk ⟨rfl, hm, hab, hb, hl, hD, hR⟩
   dsimp only at hm hab hb hl hD hR ⊢
   by_cases h12 : b - a ≤ 12
   · repeat' (first|refine zck ?_|refine zcp (by kernel_rfl) ?_|refine zcl ?_|(refine zap rfl ?_; first|refine zan rfl ?_|refine zan rfl ?_|refine zah [0] (ins_spec w0 bb N cap D a b (by omega) hab hb hD) rfl rfl rfl zdj rfl ?_|refine zbi rfl rfl (by omega) ?_|refine zav rfl rfl (by omega) ?_)|refine zch ?_|refine zci rfl ?_)
     rw [← hR, pdq_small h12]
     exact qret0 (fun _ _ h => h) rfl ⟨rfl, rfl⟩
   · by_cases h0 : limit = 0
     · subst h0
       repeat' (first|refine zck ?_|refine zcp (by kernel_rfl) ?_|refine zcm ?_|refine zcl ?_|(refine zap rfl ?_; first|refine zan rfl ?_|refine zan rfl ?_|refine zah [0] (heap_spec w0 bb N cap D a b (by omega) (by omega) hb hD) rfl rfl rfl zdj rfl ?_|refine zbc rfl rfl (by omega) ?_|refine zbj rfl rfl (by omega) ?_|refine zav rfl rfl (by omega) ?_)|refine zch ?_|refine zci rfl ?_|refine zcj rfl ?_)
       rw [← hR, pdq_heap h12]
       exact qret0 (fun _ _ h => h) rfl ⟨rfl, rfl⟩
     · obtain ⟨d1, hd1⟩ : ∃ d1, d1 = if !wb then breakPatterns D a b else D := ⟨_, rfl⟩
       obtain ⟨lim, hlim⟩ : ∃ lim, lim = if !wb then limit - 1 else limit := ⟨_, rfl⟩
       have hlim1 : lim ≤ 1000 := by rw [hlim]; split <;> omega
       obtain ⟨c, hc⟩ : ∃ c, c = choosePivot ltStr d1 a b := ⟨_, rfl⟩
       have hcr : a ≤ c.1 ∧ c.1 < b := by rw [hc]; exact Go.Sort.choosePivot_holds ltStr d1 a b (by omega)
       obtain ⟨d2, hd2⟩ : ∃ d2, d2 = if c.2 = .decreasing then reverseRange d1 a b else d1 := ⟨_, rfl⟩
       obtain ⟨pv, hpv⟩ : ∃ pv, pv = if c.2 = .decreasing then (b - 1) - (c.1 - a) else c.1 := ⟨_, rfl⟩
       have hpr : a ≤ pv ∧ pv < b := by rw [hpv]; split <;> omega
       obtain ⟨hint, hh⟩ : ∃ hint, hint = if c.2 = .decreasing then .increasing else c.2 := ⟨_, rfl⟩
       obtain ⟨pi, hpi⟩ : ∃ pi, pi = if wb && wp && hint = .increasing then partialInsertionSort ltStr d2 a b else (d2, false) := ⟨_, rfl⟩
       rw [pdq_unf h12 h0 hd1 hlim hc hd2 hpv hh hpi] at hR
       repeat (first|refine zck ?_|refine zcl ?_|refine zcm ?_|refine zcn ?_)
       first|refine zcp (by kernel_rfl) ?_|refine zcq PP_mixed (by kernel_rfl) (by kernel_rfl) ?_
       repeat' (refine zap rfl ?_; first|refine zan rfl ?_|refine zav rfl rfl (by omega) ?_)
       all_goals (refine zch ?_; repeat (first|refine zck ?_|refine zcl ?_|refine zcm ?_|refine zcn ?_))
       first|refine zcp (by kernel_rfl) ?_|refine zcq PP_mixed (by kernel_rfl) (by kernel_rfl) ?_
       repeat' (refine zap rfl ?_; first|refine zan rfl ?_|refine zbj rfl rfl (by omega) ?_)
       all_goals (refine zch ?_; repeat (first|refine zck ?_|refine zcl ?_|refine zcm ?_|refine zcn ?_))
       refine zcj rfl ?_
       refine zcm ?_
       repeat (first|refine zck ?_|refine zcl ?_|refine zcm ?_|refine zcn ?_)
       first|refine zcp (by kernel_rfl) ?_|refine zcq PP_mixed (by kernel_rfl) (by kernel_rfl) ?_
       repeat' (refine zap rfl ?_; first|refine zan rfl ?_|refine zbd rfl rfl (by omega) ?_)
       all_goals (refine zch ?_; repeat (first|refine zck ?_|refine zcl ?_|refine zcm ?_|refine zcn ?_))
       refine zcj rfl ?_
       refine zcm ?_
       repeat (first|refine zck ?_|refine zcl ?_|refine zcm ?_|refine zcn ?_)
       first|refine zcp (by kernel_rfl) ?_|refine zcq PP_mixed (by kernel_rfl) (by kernel_rfl) ?_
       repeat' (refine zap rfl ?_; first|refine zan rfl ?_|refine zbx rfl ?_)
       all_goals (refine zch ?_; repeat (first|refine zck ?_|refine zcl ?_|refine zcm ?_|refine zcn ?_))
       refine run_bind_eq (l' := [(0, .slice (some ⟨bb, 0, none⟩) N cap), (1, .int .i64 a), (2, .int .i64 b), (3, .int .i64 lim), (8, .bool wb), (9, .bool wp), (10, .int .i64 ((b : Int) - (a : Int)))]) (Γ' := [DatS 9 bb N cap d1]) ?_ (fun junk => ?_)
       · cases wb with
         | false =>
           simp only [Bool.not_false, if_true] at hd1 hlim
           repeat' (first|refine zck ?_|refine zcp (by kernel_rfl) ?_|(refine zap rfl ?_; first|refine zan rfl ?_|refine zan rfl ?_|refine zah [0] (break_specE w0 bb N cap D a b hN (by omega) hb) rfl rfl rfl zdj rfl ?_|refine zav rfl rfl (by omega) ?_)|refine zch ?_|refine zci rfl ?_)
           refine zeq ⟨rfl, ⟨rfl, rfl, rfl, zes (by omega), rfl, rfl, rfl, trivial⟩, by rw [hd1]; rfl⟩
         | true =>
           simp only [Bool.not_true, Bool.false_eq_true, if_false] at hd1 hlim
           repeat' (first|refine zcm ?_|(refine zap rfl ?_; first|refine zaj rfl ?_|refine zak rfl ?_|refine zal rfl ?_|refine zam rfl rfl (fun _ => ?_) (fun _ => ?_))|refine zcj rfl ?_)
           refine zeq ⟨rfl, ⟨rfl, rfl, rfl, zes (by omega), rfl, rfl, rfl, trivial⟩, by rw [hd1]⟩
       refine run_dats 0 rfl (fun hs1 => ?_)
       have hC := choose_specE w0 bb N cap d1 a b (by omega) (by omega) hb
       rw [← hc] at hC
       repeat (first|refine zck ?_|refine zcl ?_|refine zcm ?_|refine zcn ?_)
       first|refine zcp (by kernel_rfl) ?_|refine zcq PP_mixed (by kernel_rfl) (by kernel_rfl) ?_
       repeat' (refine zap rfl ?_; first|refine zan rfl ?_|refine zah [0] hC rfl rfl rfl zdj rfl ?_)
       all_goals (refine zch ?_; repeat (first|refine zck ?_|refine zcl ?_|refine zcm ?_|refine zcn ?_))
       first|refine zcp (by kernel_rfl) ?_|refine zcq PP_mixed (by kernel_rfl) (by kernel_rfl) ?_
       repeat' (refine zap rfl ?_; first|refine zan rfl ?_|refine zbo rfl rfl ?_)
       all_goals (refine zch ?_; repeat (first|refine zck ?_|refine zcl ?_|refine zcm ?_|refine zcn ?_))
       refine run_bind_eq (l' := [(0, .slice (some ⟨bb, 0, none⟩) N cap), (1, .int .i64 a), (2, .int .i64 b), (3, .int .i64 lim), (8, .bool wb), (9, .bool wp), (10, .int .i64 ((b : Int) - (a : Int))), (11, .int .i64 pv), (12, .int .i64 (hintI hint))]) (Γ' := [DatS 9 bb N cap d2]) ?_ (fun junk => ?_)
       · refine zed rfl (fun hE => ?_) (fun hE => ?_)
         · have hE := hintI_two.1 hE
           rw [if_pos hE] at hd2 hpv hh
           repeat' (first|refine zck ?_|refine zcp (by kernel_rfl) ?_|(refine zap rfl ?_; first|refine zan rfl ?_|refine zan rfl ?_|refine zah [0] (rev_spec w0 bb N cap d1 a b (by omega) (by omega) hb hs1) rfl rfl rfl zdj rfl ?_|refine zav rfl rfl (by omega) ?_)|refine zch ?_)
           refine zeq ⟨rfl, ⟨rfl, rfl, rfl, rfl, rfl, rfl, rfl, zes (by omega), by rw [hh]; rfl, trivial⟩, by rw [hd2]; rfl⟩
         · have hE : ¬ c.2 = .decreasing := fun h => hE (hintI_two.2 h)
           rw [if_neg hE] at hd2 hpv hh
           repeat' (first|refine zcm ?_|(refine zap rfl ?_; first|refine zaj rfl ?_|refine zak rfl ?_|refine zal rfl ?_|refine zam rfl rfl (fun _ => ?_) (fun _ => ?_))|refine zch ?_)
           refine zeq ⟨rfl, ⟨rfl, rfl, rfl, rfl, rfl, rfl, rfl, zes (by omega), by rw [hh]; rfl, trivial⟩, by rw [hd2]; rfl⟩
       refine run_dats 0 rfl (fun hs2 => ?_)
       have hP := partial_spec w0 bb N cap d2 a b (by omega) (by omega) hb
       by_cases hp2 : pi.2 = true
       · rw [if_pos hp2] at hR
         have hcnd : (wb && wp && decide (hint = .increasing)) = true := by
           cases hq : (wb && wp && decide (hint = .increasing)) with
           | true => rfl
           | false => rw [hq] at hpi; simp at hpi; rw [hpi] at hp2; cases hp2
         rw [if_pos hcnd] at hpi
         rw [← hpi, hp2] at hP
         simp only [Bool.and_eq_true, decide_eq_true_eq] at hcnd
         obtain ⟨⟨rfl, rfl⟩, rfl⟩ := hcnd
         repeat' (first|refine zck ?_|refine zcp (by kernel_rfl) ?_|(refine zap rfl ?_; first|refine zaj rfl ?_|refine zan rfl ?_|refine zah [0] hP rfl rfl rfl zdj rfl ?_|refine zbo rfl rfl ?_|refine zbu rfl ?_)|refine zch ?_|refine zci rfl ?_)
         rw [← hR]
         exact qret0 (fun _ _ h => h) rfl ⟨rfl, rfl⟩
       · have hp2 : pi.2 = false := by simpa using hp2
         rw [if_neg (by rw [hp2]; exact Bool.false_ne_true)] at hR
         repeat refine zck ?_
         refine run_bind_eq (l' := [(0, .slice (some ⟨bb, 0, none⟩) N cap), (1, .int .i64 a), (2, .int .i64 b), (3, .int .i64 lim), (8, .bool wb), (9, .bool wp), (10, .int .i64 ((b : Int) - (a : Int))), (11, .int .i64 pv), (68, .bool (wb && wp && decide (hint = .increasing)))]) (Γ' := [DatS 9 bb N cap d2]) ?_ (fun junk => ?_)
         · cases wb with
           | false =>
             repeat' (first|refine zcp (by kernel_rfl) ?_|(refine zap rfl ?_; first|refine zak rfl ?_|refine zan rfl ?_|refine zbv rfl ?_)|refine zch ?_)
             refine zeq ⟨rfl, ⟨rfl, rfl, rfl, rfl, rfl, rfl, rfl, rfl, rfl, trivial⟩, rfl⟩
           | true =>
             cases wp with
             | false =>
               repeat' (first|refine zcp (by kernel_rfl) ?_|(refine zap rfl ?_; first|refine zaj rfl ?_|refine zak rfl ?_|refine zan rfl ?_|refine zbu rfl ?_|refine zbv rfl ?_)|refine zch ?_)
               refine zeq ⟨rfl, ⟨rfl, rfl, rfl, rfl, rfl, rfl, rfl, rfl, rfl, trivial⟩, rfl⟩
             | true =>
               repeat' (first|refine zcp (by kernel_rfl) ?_|(refine zap rfl ?_; first|refine zaj rfl ?_|refine zan rfl ?_|refine zbo rfl rfl ?_|refine zbu rfl ?_)|refine zch ?_)
               refine zeq ⟨rfl, ⟨rfl, rfl, rfl, rfl, rfl, rfl, rfl, rfl, congrArg Value.bool (decide_eq_decide.2 hintI_one), trivial⟩, rfl⟩
         repeat refine zck ?_
         refine run_bind_eq (l' := [(0, .slice (some ⟨bb, 0, none⟩) N cap), (1, .int .i64 a), (2, .int .i64 b), (3, .int .i64 lim), (8, .bool wb), (9, .bool wp), (10, .int .i64 ((b : Int) - (a : Int))), (11, .int .i64 pv)]) (Γ' := [DatS 9 bb N cap pi.1]) ?_ (fun junk => ?_)
         · refine zee rfl (fun hE => ?_) (fun hE => ?_)
           · rw [if_pos hE] at hpi
             rw [← hpi, hp2] at hP
             repeat' (first|refine zck ?_|refine zcp (by kernel_rfl) ?_|refine zcm ?_|(refine zap rfl ?_; first|refine zan rfl ?_|refine zah [0] hP rfl rfl rfl zdj rfl ?_)|refine zch ?_|refine zcj rfl ?_)
             refine zeq ⟨rfl, ⟨rfl, rfl, rfl, rfl, rfl, rfl, rfl, rfl, trivial⟩, rfl⟩
           · rw [if_neg (by rw [hE]; exact Bool.false_ne_true)] at hpi
             repeat' (first|refine zcm ?_|(refine zap rfl ?_; first|refine zaj rfl ?_|refine zak rfl ?_|refine zal rfl ?_|refine zam rfl rfl (fun _ => ?_) (fun _ => ?_))|refine zch ?_)
             refine zeq ⟨rfl, ⟨rfl, rfl, rfl, rfl, rfl, rfl, rfl, rfl, trivial⟩, by rw [hpi]⟩
         refine run_dats 0 rfl (fun hs3 => ?_)
         obtain ⟨d3, hd3⟩ : ∃ d3, d3 = pi.1 := ⟨_, rfl⟩
         rw [← hd3] at hs3 hR ⊢
         clear hP hpi hp2 hd3 hC hc hcr hd1 hd2 hpv hh hs1 hs2
         repeat refine zck ?_
         refine run_bind_eq (l' := [(0, .slice (some ⟨bb, 0, none⟩) N cap), (1, .int .i64 a), (2, .int .i64 b), (3, .int .i64 lim), (8, .bool wb), (9, .bool wp), (10, .int .i64 ((b : Int) - (a : Int))), (11, .int .i64 pv), (87, .bool (decide (a > 0) && !ltStr d3[a - 1]! d3[pv]!))]) (Γ' := [DatS 9 bb N cap d3]) ?_ (fun junk => ?_)
         · by_cases ha0 : 0 < a
           · have e1 : ((a : Int) - 1).toNat = a - 1 := by omega
             have e2 : ((pv : Nat) : Int).toNat = pv := by omega
             repeat' (first|refine zeh PP_mixed (by kernel_rfl) (by kernel_rfl) ?_|(refine zap rfl ?_; first|refine reg_load_ds 0 rfl rfl (by omega) ?_|refine zaj rfl ?_|refine zan rfl ?_|refine zah [] (less_spec w0 _ _) rfl rfl rfl zdj rfl ?_|refine zbk rfl rfl (by omega) ?_|refine zav rfl rfl (by omega) ?_|refine zby rfl ?_|refine zbu rfl ?_|refine zas rfl rfl (by omega) ?_)|refine zch ?_)
             refine zeq ⟨rfl, ⟨rfl, rfl, rfl, rfl, rfl, rfl, rfl, rfl, ?_, trivial⟩, rfl⟩
             rw [decide_eq_true ha0, Bool.true_and]
             show Value.bool (decide (¬ d3[((a : Int) - 1).toNat]! < d3[((pv : Nat) : Int).toNat]!)) = _
             rw [e1, e2]; simp only [ltStr, decide_not]
           · repeat' (first|refine zeh PP_mixed (by kernel_rfl) (by kernel_rfl) ?_|(refine zap rfl ?_; first|refine zak rfl ?_|refine zan rfl ?_|refine zbl rfl rfl (by omega) ?_|refine zbv rfl ?_)|refine zch ?_)
             refine zeq ⟨rfl, ⟨rfl, rfl, rfl, rfl, rfl, rfl, rfl, rfl, ?_, trivial⟩, rfl⟩
             rw [decide_eq_false ha0]; rfl
         repeat refine zck ?_
         refine zee rfl (fun hE => ?_) (fun hE => ?_)
         · rw [if_pos hE] at hR
           have hq := parteq_range (d := d3) hpr.1 hpr.2 (by omega)
           have hS := partEq_spec w0 bb N cap d3 a b pv (by omega) hpr.1 hpr.2 hb hs3
           generalize partitionEqual ltStr d3 a b pv = q at hR hq hS
           obtain ⟨mid, d4⟩ := q
           dsimp only at hR hq hS
           rw [dif_pos hq] at hR
           repeat' (first|refine zck ?_|refine zcp (by kernel_rfl) ?_|refine zcs rfl ?_|(refine zap rfl ?_; first|refine zan rfl ?_|refine zan rfl ?_|refine zah [0] hS rfl rfl rfl zdj rfl ?_)|refine zch ?_)
           refine run_dats 0 rfl (fun hs4 => ?_)
           refine zeq ⟨rfl, (mid, b, lim, wb, wp, d4), ⟨rfl, rfl, rfl, rfl, rfl, rfl, trivial⟩, ⟨rfl, by dsimp only; omega, by dsimp only; omega, hb, hlim1, hs4, hR⟩, by dsimp only; omega⟩
         · rw [if_neg (by rw [hE]; exact Bool.false_ne_true)] at hR
           have hq := part_range (d := d3) hpr.1 hpr.2 (by omega)
           have hS := part_spec w0 bb N cap d3 a b pv (by omega) hpr.1 hpr.2 hb hs3
           generalize partition ltStr d3 a b pv = q at hR hq hS
           obtain ⟨mid, ap, d4⟩ := q
           dsimp only at hR hq hS
           rw [dif_pos hq] at hR
           refine zcm ?_
           repeat (first|refine zck ?_|refine zcl ?_|refine zcm ?_|refine zcn ?_)
           first|refine zcp (by kernel_rfl) ?_|refine zcq PP_mixed (by kernel_rfl) (by kernel_rfl) ?_
           repeat' (refine zap rfl ?_; first|refine zan rfl ?_|refine zah [0] hS rfl rfl rfl zdj rfl ?_)
           all_goals (refine zch ?_; repeat (first|refine zck ?_|refine zcl ?_|refine zcm ?_|refine zcn ?_))
           refine run_dats 0 rfl (fun hs4 => ?_)
           by_cases hlt : mid - a < b - mid
           · rw [if_pos hlt] at hR
             have hI := ih a mid lim d4 (by omega) hq.1 (by omega) hlim1 hs4
             unfold PdqAt at hI
             repeat' (first|refine zck ?_|refine zcp (by kernel_rfl) ?_|refine zcn ?_|(refine zap rfl ?_; first|refine zan rfl ?_|refine zan rfl ?_|refine zah [0] hI rfl rfl rfl zdj rfl ?_|refine zbg rfl rfl (by omega) ?_|refine zau rfl rfl (by omega) ?_|refine zav rfl rfl (by omega) ?_|refine zbt rfl rfl ?_|refine zax rfl rfl (by omega) ?_)|refine zch ?_|refine zci rfl ?_)
             refine run_dats 0 rfl (fun hs5 => ?_)
             refine zeq ⟨rfl, (mid + 1, b, lim, decide (mid - a ≥ (b - a) / 8), ap, pdq ltStr d4 a mid lim true true), ⟨rfl, zes (by first | rfl | omega | (dsimp only; omega)), rfl, rfl, congrArg Value.bool (decide_eq_decide.2 (by omega)), rfl, trivial⟩, ⟨rfl, by dsimp only; omega, by dsimp only; omega, hb, hlim1, hs5, hR⟩, by dsimp only; omega⟩
           · rw [if_neg hlt] at hR
             have hI := ih (mid + 1) b lim d4 (by omega) (by omega) hb hlim1 hs4
             unfold PdqAt at hI
             repeat' (first|refine zck ?_|refine zcp (by kernel_rfl) ?_|refine zcn ?_|(refine zap rfl ?_; first|refine zan rfl ?_|refine zan rfl ?_|refine zah [0] hI rfl rfl rfl zdj rfl ?_|refine zbh rfl rfl (by omega) ?_|refine zau rfl rfl (by omega) ?_|refine zav rfl rfl (by omega) ?_|refine zbt rfl rfl ?_|refine zax rfl rfl (by omega) ?_)|refine zch ?_|refine zcj rfl ?_)
             refine run_dats 0 rfl (fun hs5 => ?_)
             refine zeq ⟨rfl, (a, mid, lim, decide (b - mid ≥ (b - a) / 8), ap, pdq ltStr d4 (mid + 1) b lim true true), ⟨rfl, rfl, zes (by first | rfl | omega | (dsimp only; omega)), rfl, congrArg Value.bool (decide_eq_decide.2 (by omega)), rfl, trivial⟩, ⟨rfl, by dsimp only; omega, hq.1, by dsimp only; omega, hlim1, hs5, hR⟩, by dsimp only; omega⟩
end Go.Proofs.YtikackodhiollaaGreatDoor
namespace Go.Proofs.YtikackodhiollaaGreatDoor
variable (w0 : World)
open Go.Vc
open Go.Sort (ltStr bitsLen pdq)
theorem ins_nil (v : Value) : FnE PP w0 [] 114 [v, .int .i64 0, .int .i64 0] [] (.tuple #[]) [] := by
 refine zep en114 fn114 rfl rfl rfl ?_
 repeat' (first|refine zck ?_|refine zcp (by kernel_rfl) ?_|refine zcl ?_|(refine zap rfl ?_; first|refine zan rfl ?_|refine zan rfl ?_|refine zau rfl rfl (by omega) ?_)|refine zch ?_)
 refine zet ?_
 repeat' (first|refine zck ?_|refine zcp (by kernel_rfl) ?_|refine zcs rfl ?_|(refine zap rfl ?_; first|refine zan rfl ?_|refine zbh rfl rfl (by omega) ?_)|refine zch ?_|refine zcj rfl ?_)
 exact end_tmp0 rfl ⟨rfl, rfl⟩
theorem pdq_nil (v : Value) (lim : Int) : FnE PP w0 [] 82 [v, .int .i64 0, .int .i64 0, .int .i64 lim] [] (.tuple #[]) [] := by
 refine zep en82 fn82 rfl rfl rfl ?_
 repeat' (first|refine zck ?_|refine zcp (by kernel_rfl) ?_|refine zcl ?_|(refine zap rfl ?_; first|refine zan rfl ?_)|refine zch ?_)
 refine zet ?_
 repeat' (first|refine zck ?_|refine zcp (by kernel_rfl) ?_|refine zcl ?_|(refine zap rfl ?_; first|refine zan rfl ?_|refine zan rfl ?_|refine zah [] (ins_nil w0 _) rfl rfl rfl zdj rfl ?_|refine zbi rfl rfl (by omega) ?_|refine zav rfl rfl (by omega) ?_)|refine zch ?_|refine zci rfl ?_)
 exact qret0 (fun _ _ h => h) rfl ⟨rfl, rfl⟩
theorem sort_spec (a : Option Addr) (N cap : Nat) (l : List (List UInt8)) (hN : N < 65536) (hl : l.length = N) :
   FnE PP w0 [] 48 [.slice a N cap] [SlA 9 1 a N cap (strsV l)] (.tuple #[]) [SlA 9 1 a N cap (strsV (l.mergeSort fun x y => decide (x ≤ y)))] := by
 refine zep en48 fn48 rfl rfl rfl ?_
 refine run_sl_cases 0 rfl ?_ ?_
 · intro h1 h2 h3 h4
   subst h1; subst h2; subst h3
   have hl0 : l = [] := List.eq_nil_of_length_eq_zero hl
   subst hl0
   repeat' (first|refine zck ?_|refine zcp (by kernel_rfl) ?_|(refine zap rfl ?_; first|refine reg_convN ((0 : Nat) : Int) rfl (by decide) ?_|refine zan rfl ?_|refine zan rfl ?_|refine zah [] (blen_spec w0 0 (by omega)) rfl rfl rfl zdj rfl ?_|refine zah [] (pdq_nil w0 _ _) rfl rfl rfl zdj rfl ?_|refine zce rfl ?_)|refine zch ?_)
   exact end_tmp0 rfl ⟨rfl, by rw [List.mergeSort_nil]; rfl⟩
 · intro nb h1 h2 h3
   subst h1
   have hb := (Go.Sort.bitsLen_le_iff N 16).2 (by omega)
   have hP := pdq_spec w0 nb N cap hN N 0 N (bitsLen N) l.toArray (by omega) (by omega) (Nat.le_refl _) (by omega) (by simpa using hl)
   unfold PdqAt at hP
   have hS := Go.Sort.sortStr l
   unfold Go.Sort.sort at hS
   rw [List.size_toArray, hl] at hS
   unfold DatS at hP
   rw [hS] at hP
   repeat' (first|refine zck ?_|refine zcp (by kernel_rfl) ?_|(refine zap rfl ?_; first|refine reg_convN ((N : Nat) : Int) rfl (by rw [IntKind.wrap_u64]; omega) ?_|refine zan rfl ?_|refine zan rfl ?_|refine zah [] (blen_spec w0 N hN) rfl rfl rfl zdj rfl ?_|refine zah [0] hP rfl rfl rfl zdj rfl ?_|refine zce rfl ?_)|refine zch ?_)
   exact end_tmp0 rfl ⟨rfl, rfl⟩
end Go.Proofs.YtikackodhiollaaGreatDoor
namespace Sim.Tx
variable {A : Type}
structure Gr (A : Type) where
 st : A → List Nat
 aft : A → Nat → A
 out : A → ByteArray
 fit : ByteArray → A → Prop
 mu : A → Nat
 ind : A → Nat → Nat → Bool
inductive Ends (g : Gr A) : A → ByteArray → Prop where
 | here {a : A} : g.st a = [] → Ends g a (g.out a)
 | step {a : A} {s : Nat} {o : ByteArray} : s ∈ g.st a → Ends g (g.aft a s) o → Ends g a o
structure Gr.Ok (g : Gr A) (P : A → Prop) : Prop where
 next : ∀ a s, P a → s ∈ g.st a → P (g.aft a s) ∧ g.mu (g.aft a s) < g.mu a
 key : ∀ x a b, P a → P b → g.fit x a → g.fit x b → a = b
 com : ∀ a s o, P a → s ∈ g.st a → o ∈ g.st a → o ≠ s → g.ind a s o = true → s ∈ g.st (g.aft a o) ∧ g.aft (g.aft a s) o = g.aft (g.aft a o) s
def toldBy (g : Gr A) (a : A) (l : List ByteArray) : List ByteArray := if g.st a = [] then g.out a :: l else l
section
variable (g : Gr A)
def Kids (R : A → List ByteArray × List ByteArray → List ByteArray × List ByteArray → Prop) (a : A) : List Nat → List ByteArray × List ByteArray → List ByteArray × List ByteArray → Prop
 | [], S, S' => S' = S
 | s :: l, S, S' => ∃ S1, R (g.aft a s) S S1 ∧ Kids R a l S1 S'
def All : Nat → A → List ByteArray × List ByteArray → List ByteArray × List ByteArray → Prop
 | 0, _, _, _ => False
 | n + 1, a, S, S' => ∃ x, g.fit x a ∧ ((x ∈ S.1 ∧ S' = S) ∨ (x ∉ S.1 ∧ Kids g (All n) a (g.st a) (x :: S.1, toldBy g a S.2) S'))
def slept (a : A) (s : Nat) (left : List Nat) : List Nat := left.filter fun o => decide (o ∈ g.st a) && decide (o ≠ s) && g.ind a s o
def KidsZ (R : A → List Nat → List (ByteArray × List Nat) × List ByteArray → List (ByteArray × List Nat) × List ByteArray → Prop) (a : A) : List Nat → List Nat → List (ByteArray × List Nat) × List ByteArray → List (ByteArray × List Nat) × List ByteArray → Prop
 | [], _, S, S' => S' = S
 | s :: l, left, S, S' => (s ∈ left ∧ KidsZ R a l left S S') ∨ (s ∉ left ∧ ∃ Z S1, (∀ z, z ∈ Z ↔ z ∈ slept g a s left) ∧ R (g.aft a s) Z S S1 ∧ KidsZ R a l (s :: left) S1 S')
def Some' : Nat → A → List Nat → List (ByteArray × List Nat) × List ByteArray → List (ByteArray × List Nat) × List ByteArray → Prop
 | 0, _, _, _, _ => False
 | n + 1, a, Z, S, S' => ∃ x, g.fit x a ∧ (((∃ old, (x, old) ∈ S.1 ∧ ∀ z ∈ old, z ∈ Z) ∧ S' = S) ∨ KidsZ g (Some' n) a (g.st a) Z ((x, Z) :: S.1, toldBy g a S.2) S')
end
variable {g : Gr A} {P : A → Prop}
theorem toldBy_sub (a : A) (l : List ByteArray) : ∀ o ∈ l, o ∈ toldBy g a l := fun o h => by
 unfold toldBy; split
 · exact .tail _ h
 · exact h
theorem ends_cases {a : A} {o : ByteArray} (h : Ends g a o) : (g.st a = [] ∧ o = g.out a) ∨ ∃ s, s ∈ g.st a ∧ Ends g (g.aft a s) o := by
 cases h with
 | here h => exact .inl ⟨h, rfl⟩
 | step h1 h2 => exact .inr ⟨_, h1, h2⟩
structure AllP (g : Gr A) (P : A → Prop) (S S' : List ByteArray × List ByteArray) : Prop where
 seen : ∀ x ∈ S.1, x ∈ S'.1
 found : ∀ o ∈ S.2, o ∈ S'.2
 done : ∀ x ∈ S'.1, x ∉ S.1 → ∀ a, P a → g.fit x a → ∀ o, Ends g a o → o ∈ S'.2
theorem AllP.refl (S : List ByteArray × List ByteArray) : AllP g P S S := ⟨fun _ h => h, fun _ h => h, fun _ h1 h2 => absurd h1 h2⟩
theorem AllP.trans {S S1 S2 : List ByteArray × List ByteArray} (h1 : AllP g P S S1) (h2 : AllP g P S1 S2) : AllP g P S S2 :=
 ⟨fun x h => h2.seen x (h1.seen x h), fun o h => h2.found o (h1.found o h), fun x h h3 a ha hf o ho => by
   by_cases hx : x ∈ S1.1
   · exact h2.found o (h1.done x hx h3 a ha hf o ho)
   · exact h2.done x h hx a ha hf o ho⟩
def Inv (g : Gr A) (P : A → Prop) (m : Nat) (S : List ByteArray × List ByteArray) : Prop := ∀ x ∈ S.1, ∀ a, P a → g.fit x a → g.mu a ≤ m → ∀ o, Ends g a o → o ∈ S.2
theorem Inv.step {m : Nat} {S S' : List ByteArray × List ByteArray} (h : Inv g P m S) (hp : AllP g P S S') : Inv g P m S' := fun x hx a ha hf hm o ho => by
 by_cases h2 : x ∈ S.1
 · exact hp.found o (h x h2 a ha hf hm o ho)
 · exact hp.done x hx h2 a ha hf o ho
theorem kids_spec {R : A → List ByteArray × List ByteArray → List ByteArray × List ByteArray → Prop} {a : A} (m : Nat)
   (hR : ∀ s ∈ g.st a, ∀ S S', Inv g P m S → R (g.aft a s) S S' → AllP g P S S' ∧ ∀ o, Ends g (g.aft a s) o → o ∈ S'.2) :
   ∀ (l : List Nat) (S S' : List ByteArray × List ByteArray), (∀ s ∈ l, s ∈ g.st a) → Inv g P m S → Kids g R a l S S' → AllP g P S S' ∧ ∀ s ∈ l, ∀ o, Ends g (g.aft a s) o → o ∈ S'.2
 | [], S, S', _, _, h => by
   have h : S' = S := h
   subst h
   exact ⟨.refl _, fun s hs => by cases hs⟩
 | s :: l, S, S', hl, hi, h => by
   obtain ⟨S1, h1, h2⟩ := h
   obtain ⟨p1, q1⟩ := hR s (hl s (.head _)) S S1 hi h1
   obtain ⟨p2, q2⟩ := kids_spec m hR l S1 S' (fun s hs => hl s (.tail _ hs)) (hi.step p1) h2
   refine ⟨p1.trans p2, fun z hz o ho => ?_⟩
   rcases List.mem_cons.1 hz with rfl | hz
   · exact p2.found o (q1 o ho)
   · exact q2 z hz o ho
theorem all_spec (hg : g.Ok P) : ∀ (n : Nat) (a : A) (S S' : List ByteArray × List ByteArray), P a → Inv g P (g.mu a) S → All g n a S S' → AllP g P S S' ∧ ∀ o, Ends g a o → o ∈ S'.2
 | 0, _, _, _, _, _, h => h.elim
 | n + 1, a, S, S', ha, hi, h => by
   obtain ⟨x, hx, ⟨h1, rfl⟩ | ⟨h1, h2⟩⟩ := h
   · exact ⟨.refl _, hi x h1 a ha hx (Nat.le_refl _)⟩
   · obtain ⟨p, q⟩ := kids_spec (P := P) (g.mu a - 1) (a := a) (fun s hs T T' hT hr => by
       obtain ⟨ha2, hm⟩ := hg.next a s ha hs
       exact all_spec hg n _ T T' ha2 (fun y hy b hb hf hmb => hT y hy b hb hf (by omega)) hr) (g.st a) _ _ (fun _ h => h)
       (fun y hy b hb hf hm o ho => by
         rcases List.mem_cons.1 hy with rfl | hy
         · have := hg.key _ _ _ hb ha hf hx
           subst this
           rcases ends_cases ho with ⟨e1, rfl⟩ | ⟨s, e1, _⟩
           · show g.out b ∈ toldBy g b S.2
             unfold toldBy; rw [if_pos e1]; exact .head _
           · have := (hg.next b s hb e1).2
             omega
         · exact toldBy_sub a _ o (hi y hy b hb hf (by omega) o ho)) h2
     have hE : ∀ o, Ends g a o → o ∈ S'.2 := fun o ho => by
       rcases ends_cases ho with ⟨e1, rfl⟩ | ⟨s, e1, e2⟩
       · refine p.found _ ?_
         show g.out a ∈ toldBy g a S.2
         unfold toldBy; rw [if_pos e1]; exact .head _
       · exact q s e1 o e2
     refine ⟨⟨fun y hy => p.seen y (.tail _ hy), fun o ho => p.found o (toldBy_sub a _ o ho), fun y hy h3 b hb hf o ho => ?_⟩, hE⟩
     by_cases hy2 : y = x
     · subst hy2
       have := hg.key _ _ _ hb ha hf hx
       subst this
       exact hE o ho
     · exact p.done y hy (fun h4 => by rcases List.mem_cons.1 h4 with h4 | h4; exact hy2 h4; exact h3 h4) b hb hf o ho
theorem all_sound (hg : g.Ok P) : ∀ (n : Nat) (a : A) (S S' : List ByteArray × List ByteArray), P a → All g n a S S' → ∀ o ∈ S'.2, o ∈ S.2 ∨ Ends g a o
 | 0, _, _, _, _, h, _, _ => h.elim
 | n + 1, a, S, S', ha, h, o, ho => by
   obtain ⟨x, hx, ⟨h1, rfl⟩ | ⟨h1, h2⟩⟩ := h
   · exact .inl ho
   · have key : ∀ (l : List Nat) (T T' : List ByteArray × List ByteArray), (∀ s ∈ l, s ∈ g.st a) → Kids g (All g n) a l T T' → ∀ o ∈ T'.2, o ∈ T.2 ∨ Ends g a o := by
       intro l
       induction l with
       | nil => intro T T' _ hk o ho; cases (show T' = T from hk); exact .inl ho
       | cons s l ih =>
         intro T T' hl ⟨T1, hk1, hk2⟩ o ho
         rcases ih T1 T' (fun s hs => hl s (.tail _ hs)) hk2 o ho with h5 | h5
         · rcases all_sound hg n _ T T1 (hg.next a s ha (hl s (.head _))).1 hk1 o h5 with h6 | h6
           · exact .inl h6
           · exact .inr (.step (hl s (.head _)) h6)
         · exact .inr h5
     rcases key _ _ _ (fun _ h => h) h2 o ho with h5 | h5
     · have h5 : o ∈ toldBy g a S.2 := h5
       unfold toldBy at h5
       split at h5
       · rename_i e1
         rcases List.mem_cons.1 h5 with rfl | h5
         · exact .inr (.here e1)
         · exact .inl h5
       · exact .inl h5
     · exact .inr h5
def Just (g : Gr A) (G : ByteArray → Prop) (a : A) (Z : List Nat) : Prop := ∀ z ∈ Z, z ∈ g.st a → ∀ o, Ends g (g.aft a z) o → G o
def Cov (g : Gr A) (a : A) (Z : List Nat) (F : List ByteArray) : Prop := ∀ G : ByteArray → Prop, (∀ o ∈ F, G o) → Just g G a Z → ∀ o, Ends g a o → G o
theorem Cov.mono {a : A} {Z : List Nat} {F F' : List ByteArray} (h : Cov g a Z F) (hs : ∀ o ∈ F, o ∈ F') : Cov g a Z F' := fun G hG => h G fun o ho => hG o (hs o ho)
structure SomeP (g : Gr A) (P : A → Prop) (S S' : List (ByteArray × List Nat) × List ByteArray) : Prop where
 seen : ∀ x ∈ S.1, x ∈ S'.1
 found : ∀ o ∈ S.2, o ∈ S'.2
 done : ∀ x old, (x, old) ∈ S'.1 → (x, old) ∉ S.1 → ∀ a, P a → g.fit x a → Cov g a old S'.2
theorem SomeP.refl (S : List (ByteArray × List Nat) × List ByteArray) : SomeP g P S S := ⟨fun _ h => h, fun _ h => h, fun _ _ h1 h2 => absurd h1 h2⟩
theorem SomeP.trans {S S1 S2 : List (ByteArray × List Nat) × List ByteArray} (h1 : SomeP g P S S1) (h2 : SomeP g P S1 S2) : SomeP g P S S2 :=
 ⟨fun x h => h2.seen x (h1.seen x h), fun o h => h2.found o (h1.found o h), fun x old h h3 a ha hf => by
   by_cases hx : (x, old) ∈ S1.1
   · exact (h1.done x old hx h3 a ha hf).mono h2.found
   · exact h2.done x old h hx a ha hf⟩
def InvZ (g : Gr A) (P : A → Prop) (m : Nat) (S : List (ByteArray × List Nat) × List ByteArray) : Prop := ∀ x old, (x, old) ∈ S.1 → ∀ a, P a → g.fit x a → g.mu a ≤ m → Cov g a old S.2
theorem InvZ.step {m : Nat} {S S' : List (ByteArray × List Nat) × List ByteArray} (h : InvZ g P m S) (hp : SomeP g P S S') : InvZ g P m S' := fun x old hx a ha hf hm => by
 by_cases h2 : (x, old) ∈ S.1
 · exact (h x old h2 a ha hf hm).mono hp.found
 · exact hp.done x old hx h2 a ha hf
theorem kidsZ_spec (hg : g.Ok P) {R : A → List Nat → List (ByteArray × List Nat) × List ByteArray → List (ByteArray × List Nat) × List ByteArray → Prop} {a : A} (ha : P a) (m : Nat)
   (hR : ∀ s ∈ g.st a, ∀ Z S S', InvZ g P m S → R (g.aft a s) Z S S' → SomeP g P S S' ∧ Cov g (g.aft a s) Z S'.2) :
   ∀ (l left : List Nat) (S S' : List (ByteArray × List Nat) × List ByteArray), (∀ s ∈ l, s ∈ g.st a) → InvZ g P m S → KidsZ g R a l left S S' →
     SomeP g P S S' ∧ ∀ G : ByteArray → Prop, (∀ o ∈ S'.2, G o) → Just g G a left → ∀ s ∈ l, ∀ o, Ends g (g.aft a s) o → G o
 | [], left, S, S', _, _, h => by
   have h : S' = S := h
   subst h
   exact ⟨.refl _, fun _ _ _ s hs => by cases hs⟩
 | s :: l, left, S, S', hl, hi, h => by
   have hs := hl s (.head _)
   rcases h with ⟨h1, h2⟩ | ⟨h1, Z, S1, hZ, h2, h3⟩
   · obtain ⟨p, q⟩ := kidsZ_spec hg ha m hR l left S S' (fun s hs => hl s (.tail _ hs)) hi h2
     refine ⟨p, fun G hG hJ z hz o ho => ?_⟩
     rcases List.mem_cons.1 hz with rfl | hz
     · exact hJ z h1 hs o ho
     · exact q G hG hJ z hz o ho
   · obtain ⟨p1, q1⟩ := hR s hs Z S S1 hi h2
     obtain ⟨p2, q2⟩ := kidsZ_spec hg ha m hR l (s :: left) S1 S' (fun s hs => hl s (.tail _ hs)) (hi.step p1) h3
     refine ⟨p1.trans p2, fun G hG hJ => ?_⟩
     have hc : ∀ o, Ends g (g.aft a s) o → G o := q1 G (fun o ho => hG o (p2.found o ho)) (fun z hz hz2 o ho => by
       have hz := (hZ z).1 hz
       unfold slept at hz
       obtain ⟨z1, z2⟩ := List.mem_filter.1 hz
       simp only [Bool.and_eq_true, decide_eq_true_eq] at z2
       obtain ⟨⟨z2, z3⟩, z4⟩ := z2
       obtain ⟨c1, c2⟩ := hg.com a s z ha hs z2 z3 z4
       rw [c2] at ho
       exact hJ z z1 z2 o (.step c1 ho))
     intro z hz o ho
     rcases List.mem_cons.1 hz with rfl | hz
     · exact hc o ho
     · refine q2 G hG (fun y hy hy2 => ?_) z hz o ho
       rcases List.mem_cons.1 hy with rfl | hy
       · exact hc
       · exact hJ y hy hy2
theorem some_spec (hg : g.Ok P) : ∀ (n : Nat) (a : A) (Z : List Nat) (S S' : List (ByteArray × List Nat) × List ByteArray), P a → InvZ g P (g.mu a) S → Some' g n a Z S S' → SomeP g P S S' ∧ Cov g a Z S'.2
 | 0, _, _, _, _, _, _, h => h.elim
 | n + 1, a, Z, S, S', ha, hi, h => by
   obtain ⟨x, hx, ⟨⟨old, h1, h2⟩, rfl⟩ | h2⟩ := h
   · exact ⟨.refl _, fun G hG hJ => hi x old h1 a ha hx (Nat.le_refl _) G hG fun z hz => hJ z (h2 z hz)⟩
   · obtain ⟨p, q⟩ := kidsZ_spec hg ha (g.mu a - 1) (fun s hs Z' T T' hT hr => by
       obtain ⟨ha2, hm⟩ := hg.next a s ha hs
       exact some_spec hg n _ Z' T T' ha2 (fun y old hy b hb hf hmb => hT y old hy b hb hf (by omega)) hr) (g.st a) Z _ _ (fun _ h => h)
       (fun y old hy b hb hf hm => by
         rcases List.mem_cons.1 hy with e | hy
         · cases e
           have := hg.key _ _ _ hb ha hf hx
           subst this
           intro G hG _ o ho
           rcases ends_cases ho with ⟨e1, rfl⟩ | ⟨s, e1, _⟩
           · refine hG _ ?_
             show g.out b ∈ toldBy g b S.2
             unfold toldBy; rw [if_pos e1]; exact .head _
           · have := (hg.next b s hb e1).2
             omega
         · exact (hi y old hy b hb hf (by omega)).mono (toldBy_sub a _)) h2
     have hE : Cov g a Z S'.2 := fun G hG hJ o ho => by
       rcases ends_cases ho with ⟨e1, rfl⟩ | ⟨s, e1, e2⟩
       · refine hG _ (p.found _ ?_)
         show g.out a ∈ toldBy g a S.2
         unfold toldBy; rw [if_pos e1]; exact .head _
       · exact q G hG hJ s e1 o e2
     refine ⟨⟨fun y hy => p.seen y (.tail _ hy), fun o ho => p.found o (toldBy_sub a _ o ho), fun y old hy h3 b hb hf => ?_⟩, hE⟩
     by_cases hy2 : (y, old) = (x, Z)
     · cases hy2
       have := hg.key _ _ _ hb ha hf hx
       subst this
       exact hE
     · exact p.done y old hy (fun h4 => by rcases List.mem_cons.1 h4 with h4 | h4; exact hy2 h4; exact h3 h4) b hb hf
theorem some_sound (hg : g.Ok P) : ∀ (n : Nat) (a : A) (Z : List Nat) (S S' : List (ByteArray × List Nat) × List ByteArray), P a → Some' g n a Z S S' → ∀ o ∈ S'.2, o ∈ S.2 ∨ Ends g a o
 | 0, _, _, _, _, _, h, _, _ => h.elim
 | n + 1, a, Z, S, S', ha, h, o, ho => by
   obtain ⟨x, hx, ⟨_, rfl⟩ | h2⟩ := h
   · exact .inl ho
   · have key : ∀ (l left : List Nat) (T T' : List (ByteArray × List Nat) × List ByteArray), (∀ s ∈ l, s ∈ g.st a) → KidsZ g (Some' g n) a l left T T' → ∀ o ∈ T'.2, o ∈ T.2 ∨ Ends g a o := by
       intro l
       induction l with
       | nil => intro left T T' _ hk o ho; cases (show T' = T from hk); exact .inl ho
       | cons s l ih =>
         intro left T T' hl hk o ho
         rcases hk with ⟨_, hk⟩ | ⟨_, Z', T1, _, hk1, hk2⟩
         · exact ih left T T' (fun s hs => hl s (.tail _ hs)) hk o ho
         · rcases ih (s :: left) T1 T' (fun s hs => hl s (.tail _ hs)) hk2 o ho with h5 | h5
           · rcases some_sound hg n _ Z' T T1 (hg.next a s ha (hl s (.head _))).1 hk1 o h5 with h6 | h6
             · exact .inl h6
             · exact .inr (.step (hl s (.head _)) h6)
           · exact .inr h5
     rcases key _ _ _ _ (fun _ h => h) h2 o ho with h5 | h5
     · have h5 : o ∈ toldBy g a S.2 := h5
       unfold toldBy at h5
       split at h5
       · rename_i e1
         rcases List.mem_cons.1 h5 with rfl | h5
         · exact .inr (.here e1)
         · exact .inl h5
       · exact .inl h5
     · exact .inr h5
theorem both (hg : g.Ok P) {n m : Nat} {a : A} (ha : P a) {S : List ByteArray × List ByteArray} {T : List (ByteArray × List Nat) × List ByteArray}
   (h1 : All g n a ([], []) S) (h2 : Some' g m a [] ([], []) T) : (∀ o, o ∈ S.2 ↔ Ends g a o) ∧ ∀ o, o ∈ T.2 ↔ Ends g a o := by
 refine ⟨fun o => ⟨fun h => ?_, (all_spec hg n a _ _ ha (fun x hx => by cases hx) h1).2 o⟩, fun o => ⟨fun h => ?_, fun h => ?_⟩⟩
 · exact (all_sound hg n a _ _ ha h1 o h).resolve_left (fun h => by cases h)
 · exact (some_sound hg m a [] _ _ ha h2 o h).resolve_left (fun h => by cases h)
 · exact (some_spec hg m a [] _ _ ha (fun x old hx => by cases hx) h2).2 (· ∈ T.2) (fun _ h => h) (fun z hz => by cases hz) o h
end Sim.Tx
namespace Sim.Tx
open Go
inductive Tk where
 | n (v : Int)
 | c (b : UInt8)
def Tk.enc : Tk → List UInt8
 | .n v => Lib.itoa v ++ [44]
 | .c b => [b]
def isSign (b : UInt8) : Prop := b = 59 ∨ b = 47 ∨ b = 124
def Tk.ok : Tk → Prop
 | .n _ => True
 | .c b => isSign b
def valD (l : List UInt8) : Nat := l.foldl (fun a c => a * 10 + (c.toNat - 48)) 0
theorem dig_byte {k : Nat} (h : k < 10) : (UInt8.ofNat (48 + k)).toNat = 48 + k := by
 rw [UInt8.toNat_ofNat']
 omega
theorem dec_val : ∀ u : Nat, valD (Lib.decDigits u) = u ∧ (∀ c ∈ Lib.decDigits u, 48 ≤ c.toNat ∧ c.toNat ≤ 57) ∧ Lib.decDigits u ≠ [] := by
 intro u
 induction u using Nat.strongRecOn with
 | _ u ih =>
   rw [Lib.decDigits]
   split
   · rename_i h
     refine ⟨?_, fun c hc => ?_, by simp⟩
     · simp only [valD, List.foldl_cons, List.foldl_nil]
       rw [dig_byte h]
       omega
     · rw [List.mem_singleton.1 hc, dig_byte h]
       omega
   · rename_i h
     obtain ⟨h1, h2, _⟩ := ih (u / 10) (by omega)
     refine ⟨?_, fun c hc => ?_, by simp⟩
     · unfold valD at h1 ⊢
       rw [List.foldl_append, h1]
       simp only [List.foldl_cons, List.foldl_nil]
       rw [dig_byte (by omega)]
       omega
     · rcases List.mem_append.1 hc with hc | hc
       · exact h2 c hc
       · rw [List.mem_singleton.1 hc, dig_byte (by omega)]
         omega
theorem itoa_byte (v : Int) : ∀ c ∈ Lib.itoa v, c.toNat = 45 ∨ (48 ≤ c.toNat ∧ c.toNat ≤ 57) := by
 intro c hc
 unfold Lib.itoa at hc
 split at hc
 · rcases List.mem_cons.1 hc with rfl | hc
   · exact .inl rfl
   · exact .inr ((dec_val _).2.1 c hc)
 · exact .inr ((dec_val _).2.1 c hc)
theorem itoa_inj {v w : Int} (h : Lib.itoa v = Lib.itoa w) : v = w := by
 unfold Lib.itoa at h
 have no : ∀ (u : Nat) (l : List UInt8), Lib.decDigits u ≠ 45 :: l := fun u l e => by
   have := (dec_val u).2.1 45 (by rw [e]; exact .head _)
   have h45 : (45 : UInt8).toNat = 45 := rfl
   omega
 split at h <;> split at h
 · have h := (List.cons.inj h).2
   have e := congrArg valD h
   rw [(dec_val _).1, (dec_val _).1] at e
   omega
 · exact absurd h.symm (no _ _)
 · exact absurd h (no _ _)
 · have e := congrArg valD h
   rw [(dec_val _).1, (dec_val _).1] at e
   omega
theorem sep_inj {α : Type} {s : α} : ∀ {a a' r r' : List α}, s ∉ a → s ∉ a' → a ++ s :: r = a' ++ s :: r' → a = a' ∧ r = r'
 | [], [], _, _, _, _, h => ⟨rfl, (List.cons.inj h).2⟩
 | [], x :: a', r, r', _, h2, h => absurd (by rw [(List.cons.inj h).1]; exact .head _) h2
 | x :: a, [], r, r', h1, _, h => absurd (by rw [← (List.cons.inj h).1]; exact .head _) h1
 | x :: a, y :: a', r, r', h1, h2, h => by
   obtain ⟨e1, e2⟩ := List.cons.inj h
   obtain ⟨e3, e4⟩ := sep_inj (fun h => h1 (.tail _ h)) (fun h => h2 (.tail _ h)) e2
   exact ⟨by rw [e1, e3], e4⟩
theorem comma_not (v : Int) : (44 : UInt8) ∉ Lib.itoa v := fun h => by
 have := itoa_byte v _ h
 have h44 : (44 : UInt8).toNat = 44 := rfl
 omega
theorem sign_not {b : UInt8} (hb : isSign b) (v : Int) (r l : List UInt8) : Lib.itoa v ++ r ≠ b :: l ∨ Lib.itoa v = [] := by
 cases h : Lib.itoa v with
 | nil => exact .inr rfl
 | cons x t =>
   left
   intro e
   have e := (List.cons.inj e).1
   have hx := itoa_byte v x (by rw [h]; exact .head _)
   subst e
   rcases hb with rfl | rfl | rfl
   · have : (59 : UInt8).toNat = 59 := rfl; omega
   · have : (47 : UInt8).toNat = 47 := rfl; omega
   · have : (124 : UInt8).toNat = 124 := rfl; omega
theorem itoa_ne (v : Int) : Lib.itoa v ≠ [] := by
 unfold Lib.itoa
 split
 · simp
 · exact (dec_val _).2.2
theorem toks_inj : ∀ {l l' : List Tk}, (∀ t ∈ l, t.ok) → (∀ t ∈ l', t.ok) → l.flatMap Tk.enc = l'.flatMap Tk.enc → l = l'
 | [], [], _, _, _ => rfl
 | [], t :: l', _, _, h => by
   cases t with
   | n v => simp [Tk.enc] at h
   | c b => simp [Tk.enc] at h
 | t :: l, [], _, _, h => by
   cases t with
   | n v => simp [Tk.enc] at h
   | c b => simp [Tk.enc] at h
 | t :: l, t' :: l', h1, h2, h => by
   rw [List.flatMap_cons, List.flatMap_cons] at h
   have ih := toks_inj (l := l) (l' := l') (fun t ht => h1 t (.tail _ ht)) (fun t ht => h2 t (.tail _ ht))
   cases t with
   | n v =>
     cases t' with
     | n w =>
       simp only [Tk.enc, List.append_assoc, List.singleton_append] at h
       obtain ⟨e1, e2⟩ := sep_inj (comma_not v) (comma_not w) h
       rw [itoa_inj e1, ih e2]
     | c b =>
       simp only [Tk.enc, List.append_assoc, List.singleton_append] at h
       exact absurd h ((sign_not (h2 _ (.head _)) v _ _).resolve_right (itoa_ne v))
   | c b =>
     cases t' with
     | n w =>
       simp only [Tk.enc, List.append_assoc, List.singleton_append] at h
       exact absurd h.symm ((sign_not (h1 _ (.head _)) w _ _).resolve_right (itoa_ne w))
     | c b' =>
       simp only [Tk.enc, List.singleton_append] at h
       obtain ⟨e1, e2⟩ := List.cons.inj h
       rw [e1, ih e2]
def Nums (l : List Tk) : Prop := ∀ t ∈ l, ∃ v, t = .n v
def Semi (l : List Tk) : Prop := ∀ t ∈ l, (∃ v, t = .n v) ∨ t = .c 59
theorem Nums.semi {l : List Tk} (h : Nums l) : Semi l := fun t ht => .inl (h t ht)
theorem Semi.append {l m : List Tk} (h1 : Semi l) (h2 : Semi m) : Semi (l ++ m) := fun t ht => (List.mem_append.1 ht).elim (h1 t) (h2 t)
theorem Semi.ok {l : List Tk} (h : Semi l) : ∀ t ∈ l, t.ok := fun t ht => by
 rcases h t ht with ⟨v, rfl⟩ | rfl
 · trivial
 · exact .inl rfl
theorem Semi.no {l : List Tk} (h : Semi l) {b : UInt8} (hb : b ≠ 59) : Tk.c b ∉ l := fun hm => by
 rcases h _ hm with ⟨v, e⟩ | e
 · cases e
 · cases e; exact hb rfl
structure PlaceT (v : Int) (T : List Tk) : Prop where
 form : ∃ J Q : List Tk, ∃ th : Int, T = J ++ ([.n v, .n 0, .n 0, .n th] ++ Q) ++ [.c 59] ∧ Semi J ∧ (J = [] ∨ ∃ J', J = J' ++ [.c 59]) ∧ Nums Q
theorem seg_inj : ∀ {J J' S S' : List Tk}, (J = [] ∨ ∃ K, J = K ++ [Tk.c 59]) → (J' = [] ∨ ∃ K, J' = K ++ [Tk.c 59]) → Nums S → Nums S' → J ++ S = J' ++ S' → S = S' := by
 intro J J' S S' h1 h2 hS hS' h
 let isN : Tk → Bool := fun | .n _ => true | .c _ => false
 have key : ∀ {J S : List Tk}, (J = [] ∨ ∃ K, J = K ++ [Tk.c 59]) → Nums S → (J ++ S).reverse.takeWhile isN = S.reverse := fun {J S} hJ hS => by
   have hall : ∀ t ∈ S.reverse, isN t = true := fun t ht => by
     obtain ⟨v, rfl⟩ := hS t (List.mem_reverse.1 ht)
     rfl
   rw [List.reverse_append]
   rcases hJ with rfl | ⟨K, rfl⟩
   · rw [List.reverse_nil, List.append_nil]
     have e := List.takeWhile_append_of_pos (l₂ := []) hall
     rw [List.append_nil, List.takeWhile_nil, List.append_nil] at e
     exact e
   · rw [List.reverse_append, List.takeWhile_append_of_pos hall]
     show S.reverse ++ ([Tk.c 59] ++ K.reverse).takeWhile isN = S.reverse
     rw [List.singleton_append, List.takeWhile_cons_of_neg (by simp [isN]), List.append_nil]
 have e : (J ++ S).reverse.takeWhile isN = (J' ++ S').reverse.takeWhile isN := by rw [h]
 rw [key h1 hS, key h2 hS'] at e
 exact List.reverse_inj.1 e
theorem PlaceT.semi {v : Int} {T : List Tk} (h : PlaceT v T) : Semi T := by
 obtain ⟨J, Q, th, rfl, hJ, _, hQ⟩ := h.form
 refine (hJ.append (Semi.append (fun t ht => ?_) hQ.semi)).append (fun t ht => .inr (List.mem_singleton.1 ht))
 simp only [List.mem_cons, List.not_mem_nil, or_false] at ht
 rcases ht with rfl | rfl | rfl | rfl <;> exact .inl ⟨_, rfl⟩
theorem PlaceT.inj {v w : Int} {T : List Tk} (h1 : PlaceT v T) (h2 : PlaceT w T) : v = w := by
 obtain ⟨J, Q, th, e1, _, hJ, hQ⟩ := h1.form
 obtain ⟨J', Q', th', e2, _, hJ', hQ'⟩ := h2.form
 rw [e1] at e2
 have e3 := (List.append_inj_left' e2 rfl)
 have nums : ∀ (v th : Int) (Q : List Tk), Nums Q → Nums ([.n v, .n 0, .n 0, .n th] ++ Q) := fun v th Q hQ t ht => by
   rcases List.mem_append.1 ht with ht | ht
   · simp only [List.mem_cons, List.not_mem_nil, or_false] at ht
     rcases ht with rfl | rfl | rfl | rfl <;> exact ⟨_, rfl⟩
   · exact hQ t ht
 have e4 := seg_inj hJ hJ' (nums _ _ _ hQ) (nums _ _ _ hQ') e3
 have e5 : Tk.n v = Tk.n w := (List.cons.inj e4).1
 cases e5
 rfl
def gotT (g : List (Int × Bool)) : List Tk := g.flatMap fun x => [.n x.1, .n 0, .n 0, .n (if x.2 = true then 1 else 0)]
theorem gotT_nums (g : List (Int × Bool)) : Nums (gotT g) := fun t ht => by
 obtain ⟨x, _, hx⟩ := List.mem_flatMap.1 ht
 simp only [List.mem_cons, List.not_mem_nil, or_false] at hx
 rcases hx with rfl | rfl | rfl | rfl <;> exact ⟨_, rfl⟩
theorem gotT_inj : ∀ {g g' : List (Int × Bool)}, gotT g = gotT g' → g = g'
 | [], [], _ => rfl
 | [], x :: g', h => by simp [gotT] at h
 | x :: g, [], h => by simp [gotT] at h
 | x :: g, y :: g', h => by
   simp only [gotT, List.flatMap_cons, List.cons_append, List.nil_append, List.cons.injEq, Tk.n.injEq, true_and] at h
   obtain ⟨h1, h2, h3⟩ := h
   have hb : x.2 = y.2 := by
     cases hx : x.2 <;> cases hy : y.2 <;> simp [hx, hy] at h2 <;> rfl
   rw [show x = y from Prod.ext h1 hb, gotT_inj h3]
structure TaskT (g : List (Int × Bool)) (T : List Tk) : Prop where
 form : ∃ d s : Int, T = .n d :: .n s :: gotT g
theorem TaskT.nums {g : List (Int × Bool)} {T : List Tk} (h : TaskT g T) : Nums T := by
 obtain ⟨d, s, rfl⟩ := h.form
 intro t ht
 rcases List.mem_cons.1 ht with rfl | ht
 · exact ⟨_, rfl⟩
 · rcases List.mem_cons.1 ht with rfl | ht
   · exact ⟨_, rfl⟩
   · exact gotT_nums g t ht
inductive TasksT : List (List (Int × Bool)) → List Tk → Prop where
 | nil : TasksT [] []
 | cons {g : List (Int × Bool)} {l : List (List (Int × Bool))} {T R : List Tk} : TaskT g T → TasksT l R → TasksT (g :: l) (.c 124 :: T ++ R)
theorem TasksT.head {l : List (List (Int × Bool))} {R : List Tk} (h : TasksT l R) : R = [] ∨ ∃ R', R = .c 124 :: R' := by
 cases h with
 | nil => exact .inl rfl
 | cons _ _ => exact .inr ⟨_, rfl⟩
theorem cut_inj {T T' R R' : List Tk} (h1 : Nums T) (h2 : Nums T') (hR : R = [] ∨ ∃ K, R = .c 124 :: K) (hR' : R' = [] ∨ ∃ K, R' = .c 124 :: K) (h : T ++ R = T' ++ R') : T = T' ∧ R = R' := by
 have no : ∀ {T : List Tk}, Nums T → Tk.c 124 ∉ T := fun hT hm => by obtain ⟨v, e⟩ := hT _ hm; cases e
 rcases hR with rfl | ⟨K, rfl⟩ <;> rcases hR' with rfl | ⟨K', rfl⟩
 · rw [List.append_nil, List.append_nil] at h
   exact ⟨h, rfl⟩
 · rw [List.append_nil] at h
   exact absurd (by rw [h]; simp) (no h1)
 · rw [List.append_nil] at h
   exact absurd (by rw [← h]; simp) (no h2)
 · obtain ⟨e1, e2⟩ := sep_inj (no h1) (no h2) h
   exact ⟨e1, by rw [e2]⟩
theorem TasksT.inj : ∀ {l l' : List (List (Int × Bool))} {R : List Tk}, TasksT l R → TasksT l' R → l = l'
 | _, _, _, .nil, h => by cases h; rfl
 | _, _, _, .cons (g := g) (l := l) (T := T) (R := R) hT hR, h => by
   generalize he : Tk.c 124 :: T ++ R = X at h
   cases h with
   | nil => cases he
   | cons hT' hR' =>
     have he := (List.cons.inj he).2
     obtain ⟨e1, e2⟩ := cut_inj hT.nums hT'.nums hR.head hR'.head he
     subst e1
     subst e2
     obtain ⟨d, s, e⟩ := hT.form
     obtain ⟨d', s', e'⟩ := hT'.form
     rw [e] at e'
     have e' := (List.cons.inj (List.cons.inj e').2).2
     rw [gotT_inj e', TasksT.inj hR hR']
theorem TasksT.ok : ∀ {l : List (List (Int × Bool))} {R : List Tk}, TasksT l R → ∀ t ∈ R, t.ok
 | _, _, .nil, t, ht => by cases ht
 | _, _, .cons hT hR, t, ht => by
   rcases List.mem_cons.1 ht with rfl | ht
   · exact .inr (.inr rfl)
   · rcases List.mem_append.1 ht with ht | ht
     · obtain ⟨v, rfl⟩ := hT.nums t ht; trivial
     · exact hR.ok t ht
structure KeyT (v w : Int) (l : List (List (Int × Bool))) (x : ByteArray) : Prop where
 form : ∃ P0 P1 V L R : List Tk, PlaceT v P0 ∧ PlaceT w P1 ∧ Semi V ∧ Nums L ∧ TasksT l R ∧
   x = ⟨((P0 ++ .c 47 :: (P1 ++ .c 47 :: (V ++ .c 124 :: (L ++ R)))).flatMap Tk.enc).toArray⟩
theorem KeyT.inj {v w v' w' : Int} {l l' : List (List (Int × Bool))} {x : ByteArray} (h : KeyT v w l x) (h' : KeyT v' w' l' x) : v = v' ∧ w = w' ∧ l = l' := by
 obtain ⟨P0, P1, V, L, R, a1, a2, a3, a4, a5, e⟩ := h.form
 obtain ⟨Q0, Q1, V', L', R', b1, b2, b3, b4, b5, e'⟩ := h'.form
 rw [e] at e'
 have e1 := congrArg (fun b : ByteArray => b.data.toList) e'
 dsimp only at e1
 have ok : ∀ {P0 P1 V L R : List Tk}, Semi P0 → Semi P1 → Semi V → Nums L → (∀ t ∈ R, t.ok) → ∀ t ∈ P0 ++ .c 47 :: (P1 ++ .c 47 :: (V ++ .c 124 :: (L ++ R))), t.ok := fun {P0 P1 V L R} h0 h1 h2 h3 h4 t ht => by
   simp only [List.mem_append, List.mem_cons] at ht
   rcases ht with ht | rfl | ht | rfl | ht | rfl | ht | ht
   · exact h0.ok t ht
   · exact .inr (.inl rfl)
   · exact h1.ok t ht
   · exact .inr (.inl rfl)
   · exact h2.ok t ht
   · exact .inr (.inr rfl)
   · exact h3.semi.ok t ht
   · exact h4 t ht
 have e2 := toks_inj (ok a1.semi a2.semi a3 a4 a5.ok) (ok b1.semi b2.semi b3 b4 b5.ok) e1
 obtain ⟨c1, e3⟩ := sep_inj (a1.semi.no (by decide)) (b1.semi.no (by decide)) e2
 obtain ⟨c2, e4⟩ := sep_inj (a2.semi.no (by decide)) (b2.semi.no (by decide)) e3
 obtain ⟨_, e5⟩ := sep_inj (a3.no (by decide)) (b3.no (by decide)) e4
 obtain ⟨_, e6⟩ := cut_inj a4 b4 a5.head b5.head e5
 subst c1; subst c2; subst e6
 exact ⟨a1.inj b1, a2.inj b2, a5.inj b5⟩
end Sim.Tx
namespace Sim
open Go Go.Vc
def bs (l : List UInt8) : ByteArray := ⟨l.toArray⟩
structure RuleT where
 num : Bool
 name : Bool
 meth : Bool
 sign : Bool
 or : Bool
 top : Int
 least : Int
 most : Int
structure PO where
 name : ByteArray
 params : List ByteArray
 body : List PS
structure PP' where
 stores : List (ByteArray × ByteArray)
 opers : List PO
end Sim
namespace Sim
open Go Go.Vc
structure Wd where
 val : Int
 ver : Int
 ref : Int
 deriving DecidableEq
structure Sp where
 kn : List (Int × Wd)
 rd : List Int
 puts : List (Int × Int)
 need : Int
 ended : Bool
def lookW : List (Int × Wd) → Int → Option Wd
 | [], _ => none
 | (a, w) :: r, x => if a = x then some w else lookW r x
def insI : List Int → Int → List Int
 | [], x => [x]
 | a :: r, x => if a = x then a :: r else a :: insI r x
def lastV : List (Int × Int) → Int → Option Int
 | [], _ => none
 | (a, v) :: r, x => match lastV r x with | some u => some u | none => if a = x then some v else none
def Sp.reads (s : Sp) (a : Int) : Bool × Sp :=
 if s.ended then (false, s) else
 match lookW s.kn a with
 | none => (false, { s with ended := true, need := a })
 | some _ => (true, { s with rd := insI s.rd a })
def Sp.value (s : Sp) (a : Int) : Int × Bool :=
 match lastV s.puts a with
 | some v => (v, true)
 | none => (match lookW s.kn a with | some w => w.val | none => 0, false)
def Sp.get (s : Sp) (a : Int) : Int × Sp := if (s.reads a).1 then (((s.reads a).2.value a).1, (s.reads a).2) else (0, (s.reads a).2)
def Sp.put (s : Sp) (a v : Int) : Sp := if (s.reads a).1 then { (s.reads a).2 with puts := s.puts ++ [(a, v)] } else (s.reads a).2
def Sp.back (s : Sp) (m : Int) : Sp := if s.ended = false ∧ 0 ≤ m ∧ m ≤ s.puts.length then { s with puts := s.puts.take m.toNat } else s
def wordV (w : Wd) : Value := .agg #[.int .i64 w.val, .int .u32 w.ver, .int .u32 w.ref]
end Sim
namespace Go.Proofs.YtikackodhiollaaGreatDoor
open Go.Vc Sim
end Go.Proofs.YtikackodhiollaaGreatDoor
namespace Sim
open Go Go.Vc
def Sm (s : Sp) (j : Nat) : Prop := s.puts.length + j ≤ 1099511627776
theorem Sm.mono {s : Sp} {j i : Nat} (h : Sm s j) (hi : i ≤ j) : Sm s i := by unfold Sm at *; omega
def w64 (x : Int) : Int := IntKind.i64.wrap x
structure Pl where
 root : Int
 frm : Int
 nodes : Int
def Pl.chk (P : Pl) : Int :=
 if P.root < 0 ∨ P.frm < 1 ∨ P.nodes < 0 ∨ 128 < P.nodes then 1 else if 4093 < P.root ∨ 4096 - 8 * P.nodes < P.frm then 1 else if 0 < P.nodes ∧ P.frm < P.root + 3 ∧ P.root < P.frm + 8 * P.nodes then 1 else 0
def Pl.Ok (P : Pl) : Prop := P.chk = 0 ∧ 0 ≤ P.root ∧ P.root ≤ 4093 ∧ 1 ≤ P.frm ∧ P.frm ≤ 4096 ∧ 0 ≤ P.nodes ∧ P.nodes ≤ 128
def Pl.node (P : Pl) (a : Int) : Bool := decide (P.frm ≤ a) && decide ((w64 (a - P.frm)).tmod 8 = 0) && decide (w64 ((w64 (a - P.frm)).tdiv 8) < P.nodes)
def Pl.idx (P : Pl) (a : Int) : Int := if P.node a then w64 ((w64 (a - P.frm)).tdiv 8) else 0
def Pl.add (P : Pl) (s : Sp) (c n : Int) : Sp := (s.get (P.root + c)).2.put (P.root + c) (w64 ((s.get (P.root + c)).1 + n))
def Pl.take (P : Pl) (s : Sp) : Int × Int × Sp :=
 if (s.get P.root).1 ≠ 0 then
   if P.node (s.get P.root).1 then
     ((s.get P.root).1, 0, P.add (((s.get P.root).2.get (s.get P.root).1).2.put P.root ((s.get P.root).2.get (s.get P.root).1).1) 2 (-1))
   else (0, 24, (s.get P.root).2)
 else
   if ((s.get P.root).2.get (P.root + 1)).1 < 0 ∨ P.nodes ≤ ((s.get P.root).2.get (P.root + 1)).1 then (0, 9, ((s.get P.root).2.get (P.root + 1)).2)
   else (P.frm + 8 * ((s.get P.root).2.get (P.root + 1)).1, 0, ((s.get P.root).2.get (P.root + 1)).2.put (P.root + 1) (((s.get P.root).2.get (P.root + 1)).1 + 1))
def Pl.give (P : Pl) (s : Sp) (a : Int) : Int × Sp :=
 if P.node a then (0, P.add (((s.get P.root).2.put a (s.get P.root).1).put P.root a) 2 1) else (1, s)
def Pl.left (P : Pl) (s : Sp) : Int × Sp :=
 (max (w64 (w64 ((s.get (P.root + 2)).1 + P.nodes) - ((s.get (P.root + 2)).2.get (P.root + 1)).1)) 0, ((s.get (P.root + 2)).2.get (P.root + 1)).2)
end Sim
namespace Sim.Tx
open Go Go.Vc Sim
structure AO where
 kd : Int
 pl : Bool
 N : Int
def AO.fn (o : AO) (v : Int) : Int := if o.kd = 0 then w64 (v + o.N) else if o.kd = 1 then max v o.N else if o.kd = 2 then o.N else if v = 0 then o.N else v
inductive Stt where
 | look
 | swap (v : Int)
 | done
abbrev Gots := List (Int × Bool)
def stt (o : AO) (g : Gots) : Stt :=
 match g.getLast? with
 | none => .look
 | some (v, ok) => if (ok = true ∧ 2 ≤ g.length) ∨ o.fn v = v then .done else .swap v
theorem stt_nil (o : AO) : stt o [] = .look := rfl
theorem stt_snoc (o : AO) (g : Gots) (v : Int) (ok : Bool) : stt o (g ++ [(v, ok)]) = if (ok = true ∧ 1 ≤ g.length) ∨ o.fn v = v then .done else .swap v := by
 unfold stt
 rw [List.getLast?_concat, List.length_append]
 simp only [List.length_singleton]
 by_cases h : (ok = true ∧ 1 ≤ g.length) ∨ o.fn v = v
 · rw [if_pos h, if_pos (h.imp (fun h => ⟨h.1, by omega⟩) id)]
 · rw [if_neg h, if_neg (fun h2 => h (h2.imp (fun h => ⟨h.1, by omega⟩) id))]
theorem stt_look {o : AO} {g : Gots} (h : stt o g = .look) : g = [] := by
 cases hg : g.getLast? with
 | none => exact List.getLast?_eq_none_iff.1 hg
 | some x =>
   obtain ⟨v, ok⟩ := x
   unfold stt at h
   rw [hg] at h
   dsimp only at h
   split at h <;> cases h
theorem stt_swap {o : AO} {g : Gots} {v : Int} (h : stt o g = .swap v) : o.fn v ≠ v ∧ 1 ≤ g.length := by
 unfold stt at h
 split at h
 · cases h
 · rename_i v' ok hg
   split at h
   · cases h
   · rename_i h2
     cases h
     refine ⟨fun h => h2 (.inr h), ?_⟩
     cases g with
     | nil => cases hg
     | cons _ _ => exact Nat.succ_le_succ (Nat.zero_le _)
structure Wd where
 w0 : Int
 w1 : Int
 ts : List (AO × Gots)
def Wd.get (a : Wd) (b : Bool) : Int := if b = true then a.w1 else a.w0
def Wd.put (a : Wd) (b : Bool) (v : Int) : Wd := if b = true then { a with w1 := v } else { a with w0 := v }
def Wd.tell (a : Wd) (i : Nat) (o : AO) (g : Gots) : Wd := { a with ts := a.ts.set i (o, g) }
def Wd.stt (a : Wd) (i : Nat) : Stt := match a.ts[i]? with | none => .done | some (o, g) => Tx.stt o g
def Wd.live (a : Wd) (i : Nat) : Bool := match a.stt i with | .done => false | _ => true
def Wd.steps (a : Wd) : List Nat := (List.range a.ts.length).filter a.live
def Wd.aft (a : Wd) (i : Nat) : Wd :=
 match a.ts[i]? with
 | none => a
 | some (o, g) =>
   match Tx.stt o g with
   | .look => a.tell i o (g ++ [(a.get o.pl, true)])
   | .swap v => if a.get o.pl = v then (a.put o.pl (o.fn v)).tell i o (g ++ [(v, true)]) else a.tell i o (g ++ [(a.get o.pl, false)])
   | .done => a
def Wd.pl (a : Wd) (i : Nat) : Bool := match a.ts[i]? with | none => false | some (o, _) => o.pl
def Wd.ind (a : Wd) (i j : Nat) : Bool :=
 match a.stt i, a.stt j with
 | .look, .look => true
 | .look, .swap _ => decide (a.pl i ≠ a.pl j)
 | .swap _, .look => decide (a.pl i ≠ a.pl j)
 | _, _ => false
def wgt (a : Wd) (x : AO × Gots) : Nat :=
 match stt x.1 x.2 with
 | .look => 6
 | .swap v => if a.get x.1.pl = v then 4 else 5
 | .done => 0
def Wd.mu (a : Wd) : Nat := (a.ts.map (wgt a)).sum
def numB (n : Int) : ByteArray := ⟨(Lib.itoa n).toArray⟩
def wtext (v w : Int) : ByteArray := numB v ++ bs [32] ++ numB w
def gotB (s : ByteArray) (x : Int × Bool) : ByteArray := if x.2 = true then s ++ (bs [32] ++ numB x.1) else s ++ (bs [32] ++ numB x.1) ++ bs [33]
def taskB (s : ByteArray) (x : AO × Gots) : ByteArray := x.2.foldl gotB (s ++ bs [59])
def Wd.out (a : Wd) : ByteArray := a.ts.foldl taskB (wtext a.w0 a.w1)
def gr : Gr Wd := ⟨Wd.steps, Wd.aft, Wd.out, fun x a => KeyT a.w0 a.w1 (a.ts.map (·.2)) x, Wd.mu, Wd.ind⟩
def Of (L : List AO) (a : Wd) : Prop := a.ts.map (·.1) = L ∧ L.length ≤ 3
theorem mem_steps {a : Wd} {i : Nat} : i ∈ a.steps ↔ ∃ o g, a.ts[i]? = some (o, g) ∧ stt o g ≠ .done := by
 unfold Wd.steps
 rw [List.mem_filter, List.mem_range]
 unfold Wd.live Wd.stt
 constructor
 · rintro ⟨h1, h2⟩
   obtain ⟨⟨o, g⟩, hx⟩ : ∃ x, a.ts[i]? = some x := ⟨_, List.getElem?_eq_getElem h1⟩
   refine ⟨o, g, hx, fun h => ?_⟩
   rw [hx] at h2
   dsimp only at h2
   rw [h] at h2
   cases h2
 · rintro ⟨o, g, hx, h⟩
   refine ⟨(List.getElem?_eq_some_iff.1 hx).1, ?_⟩
   rw [hx]
   dsimp only
   cases hs : Tx.stt o g with
   | look => rfl
   | swap v => rfl
   | done => exact absurd hs h
theorem put_ts (a : Wd) (b : Bool) (v : Int) : (a.put b v).ts = a.ts := by unfold Wd.put; split <;> rfl
theorem put_get (a : Wd) (b c : Bool) (v : Int) : (a.put b v).get c = if b = c then v else a.get c := by
 unfold Wd.put Wd.get
 cases b <;> cases c <;> rfl
theorem tell_get (a : Wd) (i : Nat) (o : AO) (g : Gots) (c : Bool) : (a.tell i o g).get c = a.get c := rfl
theorem aft_look {a : Wd} {i : Nat} {o : AO} {g : Gots} (h : a.ts[i]? = some (o, g)) (hs : stt o g = .look) : a.aft i = a.tell i o (g ++ [(a.get o.pl, true)]) := by
 unfold Wd.aft; rw [h]; dsimp only; rw [hs]
theorem aft_good {a : Wd} {i : Nat} {o : AO} {g : Gots} {v : Int} (h : a.ts[i]? = some (o, g)) (hs : stt o g = .swap v) (hv : a.get o.pl = v) : a.aft i = (a.put o.pl (o.fn v)).tell i o (g ++ [(v, true)]) := by
 unfold Wd.aft; rw [h]; dsimp only; rw [hs]; dsimp only; rw [if_pos hv]
theorem aft_bad {a : Wd} {i : Nat} {o : AO} {g : Gots} {v : Int} (h : a.ts[i]? = some (o, g)) (hs : stt o g = .swap v) (hv : a.get o.pl ≠ v) : a.aft i = a.tell i o (g ++ [(a.get o.pl, false)]) := by
 unfold Wd.aft; rw [h]; dsimp only; rw [hs]; dsimp only; rw [if_neg hv]
theorem map_set_fst {l : List (AO × Gots)} {i : Nat} {o : AO} {g g' : Gots} (h : l[i]? = some (o, g)) : (l.set i (o, g')).map (·.1) = l.map (·.1) := by
 rw [List.map_set]
 refine List.ext_getElem? fun j => ?_
 rw [List.getElem?_set]
 split
 · rename_i e
   subst e
   rw [List.getElem?_map, h]
   have := (List.getElem?_eq_some_iff.1 h).1
   simp [this]
 · rfl
theorem sum_set {f f' : AO × Gots → Nat} : ∀ {l : List (AO × Gots)} {i : Nat} {x y : AO × Gots}, l[i]? = some x → (∀ z, f' z ≤ f z + 0) → ((l.set i y).map f').sum + f x ≤ (l.map f).sum + f' y
 | [], _, _, _, h, _ => by simp at h
 | z :: l, 0, x, y, h, hf => by
   cases h
   simp only [List.set_cons_zero, List.map_cons, List.sum_cons]
   have : (l.map f').sum ≤ (l.map f).sum := by
     induction l with
     | nil => exact Nat.le_refl _
     | cons w l ih => simp only [List.map_cons, List.sum_cons]; have := hf w; omega
   omega
 | z :: l, i + 1, x, y, h, hf => by
   simp only [List.set_cons_succ, List.map_cons, List.sum_cons]
   have := sum_set (i := i) (x := x) (y := y) (l := l) (by simpa using h) hf
   have := hf z
   omega
theorem sum_up {f f' : AO × Gots → Nat} : ∀ {l : List (AO × Gots)} {i : Nat} {x y : AO × Gots}, l[i]? = some x → (∀ z, f' z ≤ f z + 1) → ((l.set i y).map f').sum + f x + 1 ≤ (l.map f).sum + f' y + l.length
 | [], _, _, _, h, _ => by simp at h
 | z :: l, 0, x, y, h, hf => by
   cases h
   simp only [List.set_cons_zero, List.map_cons, List.sum_cons, List.length_cons]
   have : (l.map f').sum ≤ (l.map f).sum + l.length := by
     induction l with
     | nil => exact Nat.le_refl _
     | cons w l ih => simp only [List.map_cons, List.sum_cons, List.length_cons]; have := hf w; omega
   omega
 | z :: l, i + 1, x, y, h, hf => by
   simp only [List.set_cons_succ, List.map_cons, List.sum_cons, List.length_cons]
   have := sum_up (i := i) (x := x) (y := y) (l := l) (by simpa using h) hf
   have := hf z
   omega
theorem aft_next {L : List AO} {a : Wd} {i : Nat} (ha : Of L a) (hi : i ∈ a.steps) : Of L (a.aft i) ∧ (a.aft i).mu < a.mu := by
 obtain ⟨o, g, hx, hd⟩ := mem_steps.1 hi
 have hlen : a.ts.length ≤ 3 := by rw [← List.length_map (f := (·.1)), ha.1]; exact ha.2
 cases hs : stt o g with
 | done => exact absurd hs hd
 | look =>
   rw [aft_look hx hs]
   refine ⟨⟨(map_set_fst hx).trans ha.1, ha.2⟩, ?_⟩
   have h1 := sum_set (f := wgt a) (f' := wgt a) (y := (o, g ++ [(a.get o.pl, true)])) hx (fun _ => Nat.le_refl _)
   have h2 : wgt a (o, g) = 6 := by unfold wgt; dsimp only; rw [hs]
   have h3 : wgt a (o, g ++ [(a.get o.pl, true)]) ≤ 4 := by
     unfold wgt
     dsimp only
     rw [stt_snoc]
     split
     · rename_i e; split at e <;> cases e
     · rename_i e
       split at e
       · cases e
       · cases e; rw [if_pos rfl]; exact Nat.le_refl _
     · exact Nat.zero_le _
   show ((a.ts.set i (o, g ++ [(a.get o.pl, true)])).map (wgt a)).sum < (a.ts.map (wgt a)).sum
   omega
 | swap v =>
   by_cases hv : a.get o.pl = v
   · rw [aft_good hx hs hv]
     have hts : ((a.put o.pl (o.fn v)).tell i o (g ++ [(v, true)])).ts = a.ts.set i (o, g ++ [(v, true)]) := by
       show (a.put o.pl (o.fn v)).ts.set i _ = _
       rw [put_ts]
     refine ⟨⟨by rw [hts]; exact (map_set_fst hx).trans ha.1, ha.2⟩, ?_⟩
     have h1 := sum_up (f := wgt a) (f' := wgt ((a.put o.pl (o.fn v)).tell i o (g ++ [(v, true)]))) (y := (o, g ++ [(v, true)])) hx (fun z => by
       unfold wgt
       split
       · exact Nat.le_add_right _ _
       · split <;> split <;> omega
       · exact Nat.zero_le _)
     have h2 : wgt a (o, g) = 4 := by unfold wgt; dsimp only; rw [hs]; dsimp only; rw [if_pos hv]
     have h3 : wgt ((a.put o.pl (o.fn v)).tell i o (g ++ [(v, true)])) (o, g ++ [(v, true)]) = 0 := by
       unfold wgt
       dsimp only
       rw [stt_snoc, if_pos (.inl ⟨rfl, (stt_swap hs).2⟩)]
     show (((a.put o.pl (o.fn v)).tell i o (g ++ [(v, true)])).ts.map (wgt ((a.put o.pl (o.fn v)).tell i o (g ++ [(v, true)])))).sum < (a.ts.map (wgt a)).sum
     rw [hts]
     omega
   · rw [aft_bad hx hs hv]
     refine ⟨⟨(map_set_fst hx).trans ha.1, ha.2⟩, ?_⟩
     have h1 := sum_set (f := wgt a) (f' := wgt a) (y := (o, g ++ [(a.get o.pl, false)])) hx (fun _ => Nat.le_refl _)
     have h2 : wgt a (o, g) = 5 := by unfold wgt; dsimp only; rw [hs]; dsimp only; rw [if_neg hv]
     have h3 : wgt a (o, g ++ [(a.get o.pl, false)]) ≤ 4 := by
       unfold wgt
       dsimp only
       rw [stt_snoc]
       split
       · rename_i e; split at e <;> cases e
       · rename_i e
         split at e
         · cases e
         · cases e; rw [if_pos rfl]; exact Nat.le_refl _
       · exact Nat.zero_le _
     show ((a.ts.set i (o, g ++ [(a.get o.pl, false)])).map (wgt a)).sum < (a.ts.map (wgt a)).sum
     omega
theorem pairs_ext {l m : List (AO × Gots)} (h1 : l.map (·.1) = m.map (·.1)) (h2 : l.map (·.2) = m.map (·.2)) : l = m := by
 have e : ∀ l : List (AO × Gots), l = (l.map (·.1)).zip (l.map (·.2)) := fun l => by
   induction l with
   | nil => rfl
   | cons x l ih => rw [List.map_cons, List.map_cons, List.zip_cons_cons, ← ih]
 rw [e l, e m, h1, h2]
end Sim.Tx
namespace Sim.Tx
open Go Go.Vc Sim
def plI (b : Bool) : Int := if b = true then 1 else 0
def chk (kd a n : Int) : Int := if kd < 0 ∨ 3 < kd then 2 else if a < 0 ∨ 4096 ≤ a then 3 else if kd = 3 ∧ n = 0 then 4 else 0
def AO.ok (o : AO) : Prop := (0 ≤ o.kd ∧ o.kd ≤ 3) ∧ (o.kd = 3 → o.N ≠ 0) ∧ -9223372036854775808 ≤ o.N ∧ o.N ≤ 9223372036854775807
abbrev opV (o : AO) : Value := .agg (List.toArray [.int .i64 o.kd, .int .i64 (plI o.pl), .int .i64 o.N])
theorem chk_ok {o : AO} (h : o.ok) : chk o.kd (plI o.pl) o.N = 0 := by
 unfold chk
 have : 0 ≤ plI o.pl ∧ plI o.pl ≤ 1 := by unfold plI; split <;> omega
 rw [if_neg (by have := h.1; omega), if_neg (by omega), if_neg (fun e => h.2.1 e.1 e.2)]
end Sim.Tx
namespace Go.Proofs.YtikackodhiollaaGreatDoor
variable (w0 : World)
open Go.Vc Sim Sim.Tx
set_option maxHeartbeats 4000000
theorem check_spec (kd a n : Int) : FnE PP w0 [] 5 [.agg (List.toArray [.int .i64 kd, .int .i64 a, .int .i64 n])] [] (.int .i64 (chk kd a n)) [] := by
 by_cases h0 : kd < 0
 · have q : chk kd a n = 2 := by unfold chk; rw [if_pos (.inl h0)]
   refine zep en5 fn5 rfl rfl rfl ?_
   repeat (first|refine zck ?_|refine zcl ?_|refine zcm ?_|refine zcn ?_)
   first|refine zcp (by kernel_rfl) ?_|refine zcq PP_mixed (by kernel_rfl) (by kernel_rfl) ?_
   repeat' (refine zap rfl ?_; first|refine zan rfl ?_|refine zaq (cs := [_, _, _]) rfl (fun nb => ?_))
   all_goals (refine zch ?_; repeat (first|refine zck ?_|refine zcl ?_|refine zcm ?_|refine zcn ?_))
   refine zeb [0] rfl ?_
   repeat' (first|refine zck ?_|refine zcp (by kernel_rfl) ?_|(refine zap rfl ?_; first|refine zak rfl ?_|refine zan rfl ?_|refine zan rfl ?_|refine zaa 0 rfl rfl rfl ?_|refine zao rfl ?_|refine zbg rfl rfl (by omega) ?_|refine zbu rfl ?_)|refine zch ?_|refine zci rfl ?_)
   exact zej rfl ⟨congrArg (Value.int .i64) q.symm, rfl⟩
 by_cases h1 : 3 < kd
 · have q : chk kd a n = 2 := by unfold chk; rw [if_pos (.inr h1)]
   refine zep en5 fn5 rfl rfl rfl ?_
   repeat (first|refine zck ?_|refine zcl ?_|refine zcm ?_|refine zcn ?_)
   first|refine zcp (by kernel_rfl) ?_|refine zcq PP_mixed (by kernel_rfl) (by kernel_rfl) ?_
   repeat' (refine zap rfl ?_; first|refine zan rfl ?_|refine zaq (cs := [_, _, _]) rfl (fun nb => ?_))
   all_goals (refine zch ?_; repeat (first|refine zck ?_|refine zcl ?_|refine zcm ?_|refine zcn ?_))
   refine zeb [0] rfl ?_
   repeat' (first|refine zck ?_|refine zcp (by kernel_rfl) ?_|(refine zap rfl ?_; first|refine zaj rfl ?_|refine zan rfl ?_|refine zan rfl ?_|refine zaa 0 rfl rfl rfl ?_|refine zao rfl ?_|refine zbh rfl rfl (by omega) ?_|refine zbk rfl rfl (by omega) ?_|refine zbv rfl ?_)|refine zch ?_|refine zci rfl ?_)
   exact zej rfl ⟨congrArg (Value.int .i64) q.symm, rfl⟩
 by_cases h2 : a < 0
 · have q : chk kd a n = 3 := by unfold chk; rw [if_neg (by omega), if_pos (.inl h2)]
   refine zep en5 fn5 rfl rfl rfl ?_
   repeat (first|refine zck ?_|refine zcl ?_|refine zcm ?_|refine zcn ?_)
   first|refine zcp (by kernel_rfl) ?_|refine zcq PP_mixed (by kernel_rfl) (by kernel_rfl) ?_
   repeat' (refine zap rfl ?_; first|refine zan rfl ?_|refine zaq (cs := [_, _, _]) rfl (fun nb => ?_))
   all_goals (refine zch ?_; repeat (first|refine zck ?_|refine zcl ?_|refine zcm ?_|refine zcn ?_))
   refine zeb [0] rfl ?_
   repeat' (first|refine zck ?_|refine zcp (by kernel_rfl) ?_|(refine zap rfl ?_; first|refine zaj rfl ?_|refine zak rfl ?_|refine zan rfl ?_|refine zan rfl ?_|refine zaa 0 rfl rfl rfl ?_|refine zao rfl ?_|refine zbg rfl rfl (by omega) ?_|refine zbh rfl rfl (by omega) ?_|refine zbl rfl rfl (by omega) ?_|refine zbu rfl ?_|refine zbv rfl ?_)|refine zch ?_|refine zci rfl ?_|refine zcj rfl ?_)
   exact zej rfl ⟨congrArg (Value.int .i64) q.symm, rfl⟩
 by_cases h3 : 4096 ≤ a
 · have q : chk kd a n = 3 := by unfold chk; rw [if_neg (by omega), if_pos (.inr h3)]
   refine zep en5 fn5 rfl rfl rfl ?_
   repeat (first|refine zck ?_|refine zcl ?_|refine zcm ?_|refine zcn ?_)
   first|refine zcp (by kernel_rfl) ?_|refine zcq PP_mixed (by kernel_rfl) (by kernel_rfl) ?_
   repeat' (refine zap rfl ?_; first|refine zan rfl ?_|refine zaq (cs := [_, _, _]) rfl (fun nb => ?_))
   all_goals (refine zch ?_; repeat (first|refine zck ?_|refine zcl ?_|refine zcm ?_|refine zcn ?_))
   refine zeb [0] rfl ?_
   repeat' (first|refine zck ?_|refine zcp (by kernel_rfl) ?_|(refine zap rfl ?_; first|refine zaj rfl ?_|refine zan rfl ?_|refine zan rfl ?_|refine zaa 0 rfl rfl rfl ?_|refine zao rfl ?_|refine zbh rfl rfl (by omega) ?_|refine zbl rfl rfl (by omega) ?_|refine zbm rfl rfl (by omega) ?_|refine zbv rfl ?_)|refine zch ?_|refine zci rfl ?_|refine zcj rfl ?_)
   exact zej rfl ⟨congrArg (Value.int .i64) q.symm, rfl⟩
 by_cases h4 : kd = 3
 · by_cases h5 : n = 0
   · have q : chk kd a n = 4 := by unfold chk; rw [if_neg (by omega), if_neg (by omega), if_pos ⟨h4, h5⟩]
     refine zep en5 fn5 rfl rfl rfl ?_
     repeat (first|refine zck ?_|refine zcl ?_|refine zcm ?_|refine zcn ?_)
     first|refine zcp (by kernel_rfl) ?_|refine zcq PP_mixed (by kernel_rfl) (by kernel_rfl) ?_
     repeat' (refine zap rfl ?_; first|refine zan rfl ?_|refine zaq (cs := [_, _, _]) rfl (fun nb => ?_))
     all_goals (refine zch ?_; repeat (first|refine zck ?_|refine zcl ?_|refine zcm ?_|refine zcn ?_))
     refine zeb [0] rfl ?_
     repeat' (first|refine zck ?_|refine zcp (by kernel_rfl) ?_|(refine zap rfl ?_; first|refine zaj rfl ?_|refine zan rfl ?_|refine zan rfl ?_|refine zaa 0 rfl rfl rfl ?_|refine zao rfl ?_|refine zbc rfl rfl (by omega) ?_|refine zbh rfl rfl (by omega) ?_|refine zbl rfl rfl (by omega) ?_|refine zbn rfl rfl (by omega) ?_|refine zbu rfl ?_|refine zbv rfl ?_)|refine zch ?_|refine zci rfl ?_|refine zcj rfl ?_)
     exact zej rfl ⟨congrArg (Value.int .i64) q.symm, rfl⟩
   · have q : chk kd a n = 0 := by unfold chk; rw [if_neg (by omega), if_neg (by omega), if_neg (fun e => h5 e.2)]
     refine zep en5 fn5 rfl rfl rfl ?_
     repeat (first|refine zck ?_|refine zcl ?_|refine zcm ?_|refine zcn ?_)
     first|refine zcp (by kernel_rfl) ?_|refine zcq PP_mixed (by kernel_rfl) (by kernel_rfl) ?_
     repeat' (refine zap rfl ?_; first|refine zan rfl ?_|refine zaq (cs := [_, _, _]) rfl (fun nb => ?_))
     all_goals (refine zch ?_; repeat (first|refine zck ?_|refine zcl ?_|refine zcm ?_|refine zcn ?_))
     refine zeb [0] rfl ?_
     repeat' (first|refine zck ?_|refine zcp (by kernel_rfl) ?_|refine zcm ?_|refine zcn ?_|(refine zap rfl ?_; first|refine zaj rfl ?_|refine zan rfl ?_|refine zan rfl ?_|refine zaa 0 rfl rfl rfl ?_|refine zao rfl ?_|refine zbc rfl rfl (by omega) ?_|refine zbd rfl rfl (by omega) ?_|refine zbh rfl rfl (by omega) ?_|refine zbl rfl rfl (by omega) ?_|refine zbn rfl rfl (by omega) ?_|refine zbu rfl ?_|refine zbv rfl ?_)|refine zch ?_|refine zcj rfl ?_)
     exact zej rfl ⟨congrArg (Value.int .i64) q.symm, rfl⟩
 · have q : chk kd a n = 0 := by unfold chk; rw [if_neg (by omega), if_neg (by omega), if_neg (fun e => h4 e.1)]
   refine zep en5 fn5 rfl rfl rfl ?_
   repeat (first|refine zck ?_|refine zcl ?_|refine zcm ?_|refine zcn ?_)
   first|refine zcp (by kernel_rfl) ?_|refine zcq PP_mixed (by kernel_rfl) (by kernel_rfl) ?_
   repeat' (refine zap rfl ?_; first|refine zan rfl ?_|refine zaq (cs := [_, _, _]) rfl (fun nb => ?_))
   all_goals (refine zch ?_; repeat (first|refine zck ?_|refine zcl ?_|refine zcm ?_|refine zcn ?_))
   refine zeb [0] rfl ?_
   repeat' (first|refine zck ?_|refine zcp (by kernel_rfl) ?_|refine zcm ?_|refine zcn ?_|(refine zap rfl ?_; first|refine zaj rfl ?_|refine zak rfl ?_|refine zan rfl ?_|refine zan rfl ?_|refine zaa 0 rfl rfl rfl ?_|refine zao rfl ?_|refine zbd rfl rfl (by omega) ?_|refine zbh rfl rfl (by omega) ?_|refine zbl rfl rfl (by omega) ?_|refine zbn rfl rfl (by omega) ?_|refine zbv rfl ?_)|refine zch ?_|refine zcj rfl ?_)
   exact zej rfl ⟨congrArg (Value.int .i64) q.symm, rfl⟩
theorem make1 (v n : Int) : FnE PP w0 [] 69 [.int .i64 v, .int .i64 n] [] (.int .i64 (w64 (v + n))) [] := by
 refine zep en69 fn69 rfl rfl rfl ?_
 repeat' (first|refine zck ?_|refine zcp (by kernel_rfl) ?_|(refine zap rfl ?_; first|refine zdu rfl rfl ?_|refine zan rfl ?_|refine zan rfl ?_)|refine zch ?_)
 exact zej rfl ⟨rfl, rfl⟩
theorem make2 (v n : Int) : FnE PP w0 [] 70 [.int .i64 v, .int .i64 n] [] (.int .i64 (max v n)) [] := by
 refine zep en70 fn70 rfl rfl rfl ?_
 have q : (if n > v then n else v) = max v n := by split <;> omega
 repeat' (first|refine zck ?_|refine zcp (by kernel_rfl) ?_|(refine zap rfl ?_; first|refine zan rfl ?_|refine zan rfl ?_|refine zcf rfl rfl ?_)|refine zch ?_)
 exact zej rfl ⟨congrArg (Value.int .i64) q, rfl⟩
theorem make3 (v n : Int) : FnE PP w0 [] 71 [.int .i64 v, .int .i64 n] [] (.int .i64 n) [] := by
 refine zep en71 fn71 rfl rfl rfl ?_
 repeat' (first|refine zck ?_|refine zcp (by kernel_rfl) ?_|(refine zap rfl ?_; first|refine zan rfl ?_|refine zan rfl ?_)|refine zch ?_)
 exact zej rfl ⟨rfl, rfl⟩
theorem make4 (v n : Int) : FnE PP w0 [] 72 [.int .i64 v, .int .i64 n] [] (.int .i64 (if v = 0 then n else v)) [] := by
 by_cases h : v = 0
 · refine zep en72 fn72 rfl rfl rfl ?_
   repeat' (first|refine zck ?_|refine zcp (by kernel_rfl) ?_|(refine zap rfl ?_; first|refine zan rfl ?_|refine zan rfl ?_|refine zbc rfl rfl (by omega) ?_)|refine zch ?_|refine zci rfl ?_)
   exact zej rfl ⟨congrArg (Value.int .i64) (if_pos h).symm, rfl⟩
 · refine zep en72 fn72 rfl rfl rfl ?_
   repeat' (first|refine zck ?_|refine zcp (by kernel_rfl) ?_|refine zcm ?_|(refine zap rfl ?_; first|refine zan rfl ?_|refine zan rfl ?_|refine zbd rfl rfl (by omega) ?_)|refine zch ?_|refine zcj rfl ?_)
   exact zej rfl ⟨congrArg (Value.int .i64) (if_neg h).symm, rfl⟩
def makesL : List Value := [.func (.func 69) #[] #[], .func (.func 70) #[] #[], .func (.func 71) #[] #[], .func (.func 72) #[] #[]]
theorem makes_spec : FnE PP w0 [] 36 [] [] (.agg (List.toArray makesL)) [] := by
 refine zep en36 fn36 rfl rfl rfl ?_
 repeat' (first|refine zck ?_|refine zcp (by kernel_rfl) ?_|(refine zap rfl ?_; first|refine zae 0 rfl rfl rfl rfl rfl rfl rfl ?_|refine zar (fun nb => ?_)|refine zex rfl ?_)|refine zch ?_)
 exact zeg (zek (zel [] rfl (zem rfl (zeo 0 rfl rfl rfl) ⟨rfl, rfl, rfl⟩)))
theorem fn_spec (o : AO) (ho : o.ok) (v : Int) : ∃ f, (∀ k : Nat, (k : Int) = o.kd → makesL[k]? = some (.func (.func f) #[] #[])) ∧ FnE PP w0 [] f [.int .i64 v, .int .i64 o.N] [] (.int .i64 (o.fn v)) [] := by
 obtain ⟨⟨h0, h1⟩, _, _⟩ := ho
 unfold AO.fn
 rcases (by omega : o.kd = 0 ∨ o.kd = 1 ∨ o.kd = 2 ∨ o.kd = 3) with e | e | e | e
 · refine ⟨_, fun k hk => ?_, by rw [if_pos e]; exact make1 w0 v o.N⟩
   have : k = 0 := by omega
   subst this; rfl
 · refine ⟨_, fun k hk => ?_, by rw [if_neg (by omega), if_pos e]; exact make2 w0 v o.N⟩
   have : k = 1 := by omega
   subst this; rfl
 · refine ⟨_, fun k hk => ?_, by rw [if_neg (by omega), if_neg (by omega), if_pos e]; exact make3 w0 v o.N⟩
   have : k = 2 := by omega
   subst this; rfl
 · refine ⟨_, fun k hk => ?_, by rw [if_neg (by omega), if_neg (by omega), if_neg (by omega)]; exact make4 w0 v o.N⟩
   have : k = 3 := by omega
   subst this; rfl
end Go.Proofs.YtikackodhiollaaGreatDoor
