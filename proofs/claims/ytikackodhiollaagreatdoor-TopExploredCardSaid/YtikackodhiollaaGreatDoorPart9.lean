import Derived.Test.YtikackodhiollaaGreatDoorPart8
/- Own work: lemmas of this claim. -/
namespace Sim.Tx
open Go Go.Vc Sim
def indB (op1 a1 op2 a2 : Int) : Bool := if op1 = 5 ∧ op2 = 5 then true else if op1 = 5 ∨ op2 = 5 then decide (a1 ≠ a2) else false
end Sim.Tx
namespace Go.Proofs.YtikackodhiollaaGreatDoor
variable (w0 : World)
open Go.Vc Sim Sim.Tx
set_option maxHeartbeats 8000000
theorem exReads (op a v n : Int) (hop : op = 5 ∨ op = 6) : FnE PP w0 [] 107 [actV op a v n] [] (.bool (decide (op = 5))) [] := by
 rcases hop with rfl | rfl
 all_goals
   refine zep en107 fn107 rfl rfl rfl ?_
   repeat (first|refine zck ?_|refine zcl ?_|refine zcm ?_|refine zcn ?_)
   first|refine zcp (by kernel_rfl) ?_|refine zcq PP_mixed (by kernel_rfl) (by kernel_rfl) ?_
   repeat' (refine zap rfl ?_; first|refine zan rfl ?_|refine zaq (cs := [_, _, _, _, _, _, _, _]) rfl (fun nb => ?_))
   all_goals (refine zch ?_; repeat (first|refine zck ?_|refine zcl ?_|refine zcm ?_|refine zcn ?_))
   refine zeb [0] rfl ?_
   repeat' (first|refine zcp (by kernel_rfl) ?_|(refine zap rfl ?_; first|refine zaj rfl ?_|refine zan rfl ?_|refine zan rfl ?_|refine zaa 0 rfl rfl rfl ?_|refine zao rfl ?_|refine zbc rfl rfl (by omega) ?_|refine zbd rfl rfl (by omega) ?_|refine zbv rfl ?_)|refine zch ?_)
   exact zej rfl ⟨rfl, rfl⟩
theorem exChanges (op a v n : Int) (hop : op = 5 ∨ op = 6) : FnE PP w0 [] 106 [actV op a v n] [] (.bool (decide (op = 6))) [] := by
 rcases hop with rfl | rfl
 · exact macChanges5 w0 a v n
 · exact macChanges6 w0 a v n
theorem exInd (op1 a1 v1 n1 op2 a2 v2 n2 : Int) (h1 : op1 = 5 ∨ op1 = 6) (h2 : op2 = 5 ∨ op2 = 6) (ha1 : a1 = 0 ∨ a1 = 1) (ha2 : a2 = 0 ∨ a2 = 1) :
   FnE PP w0 [] 68 [actV op1 a1 v1 n1, actV op2 a2 v2 n2] [] (.bool (indB op1 a1 op2 a2)) [] := by
 have hc1 := exChanges w0 op1 a1 v1 n1 h1
 have hc2 := exChanges w0 op2 a2 v2 n2 h2
 have hr1 := exReads w0 op1 a1 v1 n1 h1
 have hr2 := exReads w0 op2 a2 v2 n2 h2
 have e1 : op1 ≠ 0 ∧ op1 ≠ 8 := by omega
 have e2 : op2 ≠ 0 ∧ op2 ≠ 8 := by omega
 refine zep en68 fn68 rfl rfl rfl ?_
 repeat (first|refine zck ?_|refine zcl ?_|refine zcm ?_|refine zcn ?_)
 first|refine zcp (by kernel_rfl) ?_|refine zcq PP_mixed (by kernel_rfl) (by kernel_rfl) ?_
 repeat' (refine zap rfl ?_; first|refine zan rfl ?_|refine zaq (cs := [_, _, _, _, _, _, _, _]) rfl (fun nb => ?_))
 all_goals (refine zch ?_; repeat (first|refine zck ?_|refine zcl ?_|refine zcm ?_|refine zcn ?_))
 refine zeb [0] rfl ?_
 refine zeb [0] rfl ?_
 repeat (first|refine zck ?_|refine zcl ?_|refine zcm ?_|refine zcn ?_)
 first|refine zcp (by kernel_rfl) ?_|refine zcq PP_mixed (by kernel_rfl) (by kernel_rfl) ?_
 repeat' (refine zap rfl ?_; first|refine zdt rfl rfl rfl rfl rfl rfl (fun nb2 => ?_)|refine zan rfl ?_|refine zaa 0 rfl rfl rfl ?_|refine zaa 1 rfl rfl rfl ?_|refine zce rfl ?_)
 all_goals (refine zch ?_; repeat (first|refine zck ?_|refine zcl ?_|refine zcm ?_|refine zcn ?_))
 refine zeb [0] rfl ?_
 repeat (first|refine zck ?_|refine zcl ?_|refine zcm ?_|refine zcn ?_|refine zco ?_)
 refine zet ?_
 repeat (first|refine zck ?_|refine zcl ?_|refine zcm ?_|refine zcn ?_|refine zco ?_)
 repeat (first|refine zck ?_|refine zcl ?_|refine zcm ?_|refine zcn ?_)
 first|refine zcp (by kernel_rfl) ?_|refine zcq PP_mixed (by kernel_rfl) (by kernel_rfl) ?_
 repeat' (refine zap rfl ?_; first|refine zbg rfl rfl (by omega) ?_)
 all_goals (refine zch ?_; repeat (first|refine zck ?_|refine zcl ?_|refine zcm ?_|refine zcn ?_))
 refine zci rfl ?_
 repeat (first|refine zck ?_|refine zcl ?_|refine zcm ?_|refine zcn ?_|refine zco ?_)
 repeat (first|refine zck ?_|refine zcl ?_|refine zcm ?_|refine zcn ?_)
 first|refine zcp (by kernel_rfl) ?_|refine zcq PP_mixed (by kernel_rfl) (by kernel_rfl) ?_
 repeat' (refine zap rfl ?_; first|refine zas rfl rfl (by omega) ?_|refine zar (fun t6 => ?_)|refine zaa 0 rfl rfl rfl ?_|refine zae 0 rfl rfl rfl rfl rfl rfl rfl ?_)
 all_goals (refine zch ?_; repeat (first|refine zck ?_|refine zcl ?_|refine zcm ?_|refine zcn ?_))
 refine zeb [0] rfl ?_
 repeat (first|refine zck ?_|refine zcl ?_|refine zcm ?_|refine zcn ?_|refine zco ?_)
 repeat (first|refine zck ?_|refine zcl ?_|refine zcm ?_|refine zcn ?_)
 first|refine zcp (by kernel_rfl) ?_|refine zcq PP_mixed (by kernel_rfl) (by kernel_rfl) ?_
 repeat' (refine zap rfl ?_; first|refine zaj rfl ?_|refine zan rfl ?_|refine zaa 0 rfl rfl rfl ?_|refine zao rfl ?_|refine zbd rfl rfl (by omega) ?_|refine zbv rfl ?_)
 all_goals (refine zch ?_; repeat (first|refine zck ?_|refine zcl ?_|refine zcm ?_|refine zcn ?_))
 refine zcj rfl ?_
 repeat (first|refine zck ?_|refine zcl ?_|refine zcm ?_|refine zcn ?_|refine zco ?_)
 repeat (first|refine zck ?_|refine zcl ?_|refine zcm ?_|refine zcn ?_)
 first|refine zcp (by kernel_rfl) ?_|refine zcq PP_mixed (by kernel_rfl) (by kernel_rfl) ?_
 repeat' (refine zap rfl ?_; first|refine zan rfl ?_|refine zau rfl rfl (by omega) ?_)
 all_goals (refine zch ?_; repeat (first|refine zck ?_|refine zcl ?_|refine zcm ?_|refine zcn ?_))
 repeat (first|refine zck ?_|refine zcl ?_|refine zcm ?_|refine zcn ?_|refine zco ?_)
 repeat (first|refine zck ?_|refine zcl ?_|refine zcm ?_|refine zcn ?_)
 first|refine zcp (by kernel_rfl) ?_|refine zcq PP_mixed (by kernel_rfl) (by kernel_rfl) ?_
 repeat' (refine zap rfl ?_; first|refine zbg rfl rfl (by omega) ?_)
 all_goals (refine zch ?_; repeat (first|refine zck ?_|refine zcl ?_|refine zcm ?_|refine zcn ?_))
 refine zci rfl ?_
 repeat (first|refine zck ?_|refine zcl ?_|refine zcm ?_|refine zcn ?_|refine zco ?_)
 repeat (first|refine zck ?_|refine zcl ?_|refine zcm ?_|refine zcn ?_)
 first|refine zcp (by kernel_rfl) ?_|refine zcq PP_mixed (by kernel_rfl) (by kernel_rfl) ?_
 repeat' (refine zap rfl ?_; first|refine zas rfl rfl (by omega) ?_|refine zar (fun t6 => ?_)|refine zaa 1 rfl rfl rfl ?_|refine zae 0 rfl rfl rfl rfl rfl rfl rfl ?_)
 all_goals (refine zch ?_; repeat (first|refine zck ?_|refine zcl ?_|refine zcm ?_|refine zcn ?_))
 refine zeb [0] rfl ?_
 repeat (first|refine zck ?_|refine zcl ?_|refine zcm ?_|refine zcn ?_|refine zco ?_)
 repeat (first|refine zck ?_|refine zcl ?_|refine zcm ?_|refine zcn ?_)
 first|refine zcp (by kernel_rfl) ?_|refine zcq PP_mixed (by kernel_rfl) (by kernel_rfl) ?_
 repeat' (refine zap rfl ?_; first|refine zaj rfl ?_|refine zan rfl ?_|refine zaa 0 rfl rfl rfl ?_|refine zao rfl ?_|refine zbd rfl rfl (by omega) ?_|refine zbv rfl ?_)
 all_goals (refine zch ?_; repeat (first|refine zck ?_|refine zcl ?_|refine zcm ?_|refine zcn ?_))
 refine zcj rfl ?_
 repeat (first|refine zck ?_|refine zcl ?_|refine zcm ?_|refine zcn ?_|refine zco ?_)
 repeat (first|refine zck ?_|refine zcl ?_|refine zcm ?_|refine zcn ?_)
 first|refine zcp (by kernel_rfl) ?_|refine zcq PP_mixed (by kernel_rfl) (by kernel_rfl) ?_
 repeat' (refine zap rfl ?_; first|refine zan rfl ?_|refine zau rfl rfl (by omega) ?_)
 all_goals (refine zch ?_; repeat (first|refine zck ?_|refine zcl ?_|refine zcm ?_|refine zcn ?_))
 repeat (first|refine zck ?_|refine zcl ?_|refine zcm ?_|refine zcn ?_|refine zco ?_)
 repeat (first|refine zck ?_|refine zcl ?_|refine zcm ?_|refine zcn ?_)
 first|refine zcp (by kernel_rfl) ?_|refine zcq PP_mixed (by kernel_rfl) (by kernel_rfl) ?_
 repeat' (refine zap rfl ?_; first|refine zbh rfl rfl (by omega) ?_)
 all_goals (refine zch ?_; repeat (first|refine zck ?_|refine zcl ?_|refine zcm ?_|refine zcn ?_))
 refine zcj rfl ?_
 refine zcs rfl ?_
 repeat (first|refine zck ?_|refine zcl ?_|refine zcm ?_|refine zcn ?_|refine zco ?_)
 rcases h1 with rfl | rfl <;> rcases h2 with rfl | rfl
 · repeat (first|refine zck ?_|refine zcl ?_|refine zcm ?_|refine zcn ?_)
   first|refine zcp (by kernel_rfl) ?_|refine zcq PP_mixed (by kernel_rfl) (by kernel_rfl) ?_
   repeat' (refine zap rfl ?_; first|refine zbx rfl ?_|refine zaj rfl ?_|refine zan rfl ?_|refine zaa 3 rfl rfl rfl ?_|refine zaa 4 rfl rfl rfl ?_|refine zah [] hc1 rfl rfl rfl zdj rfl ?_|refine zah [] hc2 rfl rfl rfl zdj rfl ?_|refine zbu rfl ?_)
   all_goals (refine zch ?_; repeat (first|refine zck ?_|refine zcl ?_|refine zcm ?_|refine zcn ?_))
   refine zci rfl ?_
   repeat (first|refine zck ?_|refine zcl ?_|refine zcm ?_|refine zcn ?_|refine zco ?_)
   repeat (first|refine zck ?_|refine zcl ?_|refine zcm ?_|refine zcn ?_)
   first|refine zcp (by kernel_rfl) ?_|refine zcq PP_mixed (by kernel_rfl) (by kernel_rfl) ?_
   repeat' (refine zap rfl ?_; first|refine zan rfl ?_)
   all_goals (refine zch ?_; repeat (first|refine zck ?_|refine zcl ?_|refine zcm ?_|refine zcn ?_))
   exact zej rfl ⟨rfl, rfl⟩
 · repeat (first|refine zck ?_|refine zcl ?_|refine zcm ?_|refine zcn ?_)
   first|refine zcp (by kernel_rfl) ?_|refine zcq PP_mixed (by kernel_rfl) (by kernel_rfl) ?_
   repeat' (refine zap rfl ?_; first|refine zbx rfl ?_|refine zaj rfl ?_|refine zan rfl ?_|refine zaa 3 rfl rfl rfl ?_|refine zaa 4 rfl rfl rfl ?_|refine zah [] hc1 rfl rfl rfl zdj rfl ?_|refine zah [] hc2 rfl rfl rfl zdj rfl ?_|refine zbu rfl ?_)
   all_goals (refine zch ?_; repeat (first|refine zck ?_|refine zcl ?_|refine zcm ?_|refine zcn ?_))
   refine zcj rfl ?_
   repeat (first|refine zck ?_|refine zcl ?_|refine zcm ?_|refine zcn ?_|refine zco ?_)
   repeat (first|refine zck ?_|refine zcl ?_|refine zcm ?_|refine zcn ?_)
   first|refine zcp (by kernel_rfl) ?_|refine zcq PP_mixed (by kernel_rfl) (by kernel_rfl) ?_
   repeat' (refine zap rfl ?_; first|refine zak rfl ?_|refine zan rfl ?_|refine zaa 4 rfl rfl rfl ?_|refine zah [] hr1 rfl rfl rfl zdj rfl ?_|refine zbu rfl ?_)
   all_goals (refine zch ?_; repeat (first|refine zck ?_|refine zcl ?_|refine zcm ?_|refine zcn ?_))
   refine zci rfl ?_
   repeat (first|refine zck ?_|refine zcl ?_|refine zcm ?_|refine zcn ?_|refine zco ?_)
   repeat (first|refine zck ?_|refine zcl ?_|refine zcm ?_|refine zcn ?_)
   first|refine zcp (by kernel_rfl) ?_|refine zcq PP_mixed (by kernel_rfl) (by kernel_rfl) ?_
   repeat' (refine zap rfl ?_; first|refine zan rfl ?_|refine zaa 3 rfl rfl rfl ?_|refine zaa 4 rfl rfl rfl ?_|refine zao rfl ?_|refine zbp rfl rfl ?_)
   all_goals (refine zch ?_; repeat (first|refine zck ?_|refine zcl ?_|refine zcm ?_|refine zcn ?_))
   exact zej rfl ⟨congrArg Value.bool (show decide (a1 ≠ a2) = indB 5 a1 6 a2 by unfold indB; rw [if_neg (by decide), if_pos (.inl rfl)]), rfl⟩
 · repeat (first|refine zck ?_|refine zcl ?_|refine zcm ?_|refine zcn ?_)
   first|refine zcp (by kernel_rfl) ?_|refine zcq PP_mixed (by kernel_rfl) (by kernel_rfl) ?_
   repeat' (refine zap rfl ?_; first|refine zbx rfl ?_|refine zak rfl ?_|refine zan rfl ?_|refine zaa 4 rfl rfl rfl ?_|refine zah [] hc1 rfl rfl rfl zdj rfl ?_|refine zbv rfl ?_)
   all_goals (refine zch ?_; repeat (first|refine zck ?_|refine zcl ?_|refine zcm ?_|refine zcn ?_))
   refine zcj rfl ?_
   repeat (first|refine zck ?_|refine zcl ?_|refine zcm ?_|refine zcn ?_|refine zco ?_)
   repeat (first|refine zck ?_|refine zcl ?_|refine zcm ?_|refine zcn ?_)
   first|refine zcp (by kernel_rfl) ?_|refine zcq PP_mixed (by kernel_rfl) (by kernel_rfl) ?_
   repeat' (refine zap rfl ?_; first|refine zaj rfl ?_|refine zan rfl ?_|refine zaa 3 rfl rfl rfl ?_|refine zaa 4 rfl rfl rfl ?_|refine zah [] hr1 rfl rfl rfl zdj rfl ?_|refine zah [] hr2 rfl rfl rfl zdj rfl ?_|refine zbv rfl ?_)
   all_goals (refine zch ?_; repeat (first|refine zck ?_|refine zcl ?_|refine zcm ?_|refine zcn ?_))
   refine zci rfl ?_
   repeat (first|refine zck ?_|refine zcl ?_|refine zcm ?_|refine zcn ?_|refine zco ?_)
   repeat (first|refine zck ?_|refine zcl ?_|refine zcm ?_|refine zcn ?_)
   first|refine zcp (by kernel_rfl) ?_|refine zcq PP_mixed (by kernel_rfl) (by kernel_rfl) ?_
   repeat' (refine zap rfl ?_; first|refine zan rfl ?_|refine zaa 3 rfl rfl rfl ?_|refine zaa 4 rfl rfl rfl ?_|refine zao rfl ?_|refine zbp rfl rfl ?_)
   all_goals (refine zch ?_; repeat (first|refine zck ?_|refine zcl ?_|refine zcm ?_|refine zcn ?_))
   exact zej rfl ⟨congrArg Value.bool (show decide (a1 ≠ a2) = indB 6 a1 5 a2 by unfold indB; rw [if_neg (by decide), if_pos (.inr rfl)]), rfl⟩
 · repeat (first|refine zck ?_|refine zcl ?_|refine zcm ?_|refine zcn ?_)
   first|refine zcp (by kernel_rfl) ?_|refine zcq PP_mixed (by kernel_rfl) (by kernel_rfl) ?_
   repeat' (refine zap rfl ?_; first|refine zbx rfl ?_|refine zak rfl ?_|refine zan rfl ?_|refine zaa 4 rfl rfl rfl ?_|refine zah [] hc1 rfl rfl rfl zdj rfl ?_|refine zbv rfl ?_)
   all_goals (refine zch ?_; repeat (first|refine zck ?_|refine zcl ?_|refine zcm ?_|refine zcn ?_))
   refine zcj rfl ?_
   repeat (first|refine zck ?_|refine zcl ?_|refine zcm ?_|refine zcn ?_|refine zco ?_)
   repeat (first|refine zck ?_|refine zcl ?_|refine zcm ?_|refine zcn ?_)
   first|refine zcp (by kernel_rfl) ?_|refine zcq PP_mixed (by kernel_rfl) (by kernel_rfl) ?_
   repeat' (refine zap rfl ?_; first|refine zaj rfl ?_|refine zan rfl ?_|refine zaa 3 rfl rfl rfl ?_|refine zaa 4 rfl rfl rfl ?_|refine zah [] hr1 rfl rfl rfl zdj rfl ?_|refine zah [] hr2 rfl rfl rfl zdj rfl ?_|refine zbv rfl ?_)
   all_goals (refine zch ?_; repeat (first|refine zck ?_|refine zcl ?_|refine zcm ?_|refine zcn ?_))
   refine zcj rfl ?_
   repeat (first|refine zck ?_|refine zcl ?_|refine zcm ?_|refine zcn ?_|refine zco ?_)
   repeat (first|refine zck ?_|refine zcl ?_|refine zcm ?_|refine zcn ?_)
   first|refine zcp (by kernel_rfl) ?_|refine zcq PP_mixed (by kernel_rfl) (by kernel_rfl) ?_
   repeat' (refine zap rfl ?_; first|refine zax rfl rfl (by omega) ?_|refine zan rfl ?_|refine zaa 3 rfl rfl rfl ?_|refine zaa 4 rfl rfl rfl ?_|refine zao rfl ?_|refine zbf rfl rfl (by omega) ?_)
   all_goals (refine zch ?_; repeat (first|refine zck ?_|refine zcl ?_|refine zcm ?_|refine zcn ?_))
   exact zej rfl ⟨rfl, rfl⟩
def StOk (ml : GM Nat) (Z : List Nat) : Prop := (ml.map (·.1)).Nodup ∧ (∀ p ∈ ml, p.2 = .bool true) ∧ ∀ z, z ∈ ml.map (·.1) ↔ z ∈ Z
theorem kvT_inj : ∀ x y : Nat, kvT x = kvT y → x = y := fun x y h => by
 injection h with h
 injection h with h
 injection h with h _
 injection h with _ h
 omega
theorem StOk.look {ml : GM Nat} {Z : List Nat} (h : StOk ml Z) (z : Nat) : (lookG ml z).getD (.bool false) = .bool (decide (z ∈ Z)) := by
 have hmem : ∀ (l : GM Nat), (∀ p ∈ l, p.2 = .bool true) → (lookG l z).getD (.bool false) = .bool (decide (z ∈ l.map (·.1))) := fun l => by
   induction l with
   | nil => intro _; rfl
   | cons p l ih =>
     intro hp
     obtain ⟨k, v⟩ := p
     simp only [lookG]
     by_cases e : k = z
     · subst e
       have : v = .bool true := hp _ (.head _)
       subst this
       simp
     · rw [if_neg e, ih (fun p hq => hp p (.tail _ hq))]
       have e' : ¬ z = k := fun h => e h.symm
       simp [e']
 rw [hmem ml h.2.1]
 congr 1
 exact decide_eq_decide.2 (h.2.2 z)
theorem StOk.nil : StOk [] [] := ⟨List.nodup_nil, fun p hp => (by cases hp), fun z => Iff.rfl⟩
theorem StOk.ins {ml : GM Nat} {Z : List Nat} (h : StOk ml Z) (z : Nat) : StOk (insG ml z (.bool true)) (z :: Z) := by
 refine ⟨?_, fun p hp => ?_, fun y => ?_⟩
 · rw [insG_fst]
   split
   · exact h.1
   · rename_i hn
     exact List.nodup_append.2 ⟨h.1, List.nodup_cons.2 ⟨by simp, List.nodup_nil⟩, fun x hx y hy e => by
       rw [List.mem_singleton.1 hy] at e; subst e; exact hn hx⟩
 · rcases insG_mem hp with rfl | hp
   · rfl
   · exact h.2.1 p hp
 · rw [insG_fst, List.mem_cons, ← h.2.2 y]
   split
   · rename_i hm
     exact ⟨.inr, fun hy => hy.elim (fun e => e ▸ hm) id⟩
   · rw [List.mem_append, List.mem_singleton]
     exact Or.comm
theorem exWithin (sh : Shared) (r1 r2 : Nat) (es1 es2 : List MapEntry) (c1 c2 : Nat) (ml1 ml2 : GM Nat) (Z1 Z2 : List Nat) (X1 : RdG kvT w0 sh r1 es1 c1 ml1) (X2 : RdG kvT w0 sh r2 es2 c2 ml2) (h1 : StOk ml1 Z1) (h2 : StOk ml2 Z2) :
   Vc.Fn PP w0 sh 66 [.map (some r1), .map (some r2)] [] (fun r Γ => ∃ B, r = .bool B ∧ (B = true → ∀ z ∈ Z1, z ∈ Z2) ∧ Γ = []) := by
 refine zep en66 fn66 rfl rfl rfl ?_
 repeat (first|refine zck ?_|refine zcl ?_|refine zcm ?_|refine zcn ?_)
 first|refine zcp (by kernel_rfl) ?_|refine zcq PP_mixed (by kernel_rfl) (by kernel_rfl) ?_
 repeat' (refine zap rfl ?_; first|refine zan rfl ?_)
 all_goals (refine zch ?_; repeat (first|refine zck ?_|refine zcl ?_|refine zcm ?_|refine zcn ?_))
 first|refine zcp (by kernel_rfl) ?_|refine zcq PP_mixed (by kernel_rfl) (by kernel_rfl) ?_
 repeat' (refine zap rfl ?_; first|refine reg_rangeG X1 rfl (fun it => ?_)|refine zan rfl ?_)
 all_goals (refine zch ?_; repeat (first|refine zck ?_|refine zcl ?_|refine zcm ?_|refine zcn ?_))
 refine run_loop (S := List Nat × List Nat) (fun _ => [(1, .map (some r2)), (7, .pointer (some ⟨it, 0, none⟩))])
   (fun s Γ => Γ = [pt it (iterS r1 c1 s.1)] ∧ Met kvT es1 s.1 s.2 ∧ ∀ z ∈ s.2, z ∈ Z2) (fun s => leftS es1 s.1) ([], []) ⟨rfl, rfl, trivial⟩ ⟨rfl, Met.nil, fun z hz => by cases hz⟩ ?_
 rintro ⟨seen, acc⟩ Γ junk ⟨rfl, hM, hacc⟩
 dsimp only at hM hacc ⊢
 repeat (first|refine zck ?_|refine zcl ?_|refine zcm ?_|refine zcn ?_)
 first|refine zcp (by kernel_rfl) ?_|refine zcq PP_mixed (by kernel_rfl) (by kernel_rfl) ?_
 repeat' (refine zap rfl ?_; first|refine reg_nextG 0 X1 rfl rfl (fun q => rfl) (fun ha => ?_) (fun e pe he hs hpe k1 k2 => ?_)|refine zan rfl ?_)
 all_goals (refine zch ?_; repeat (first|refine zck ?_|refine zcl ?_|refine zcm ?_|refine zcn ?_))
 · refine zcj rfl ?_
   refine zer rfl rfl ?_
   repeat (first|refine zck ?_|refine zcl ?_|refine zcm ?_|refine zcn ?_|refine zco ?_)
   repeat (first|refine zck ?_|refine zcl ?_|refine zcm ?_|refine zcn ?_)
   first|refine zcp (by kernel_rfl) ?_|refine zcq PP_mixed (by kernel_rfl) (by kernel_rfl) ?_
   repeat' (refine zap rfl ?_; first|refine zan rfl ?_)
   all_goals (refine zch ?_; repeat (first|refine zck ?_|refine zcl ?_|refine zcm ?_|refine zcn ?_))
   have hd := hM.done X1.ok kvT_inj ha
   exact zeg (zek (zel [] rfl (zem rfl rfl ⟨rfl, true, rfl, fun _ z hz => hacc z ((hd.2.1 z).2 ((h1.2.2 z).2 hz)), rfl⟩)))
 · refine zci rfl ?_
   repeat (first|refine zck ?_|refine zcl ?_|refine zcm ?_|refine zcn ?_)
   first|refine zcp (by kernel_rfl) ?_|refine zcq PP_mixed (by kernel_rfl) (by kernel_rfl) ?_
   repeat' (refine zap rfl ?_; first|refine reg_entryG 0 X1 he k1 k2 rfl rfl ?_|refine zar (fun t5 => ?_)|refine zan rfl ?_|refine zae 1 rfl rfl rfl rfl rfl rfl rfl ?_)
   all_goals (refine zch ?_; repeat (first|refine zck ?_|refine zcl ?_|refine zcm ?_|refine zcn ?_))
   refine zeb [1] rfl ?_
   repeat (first|refine zck ?_|refine zcl ?_|refine zcm ?_|refine zcn ?_|refine zco ?_)
   repeat (first|refine zck ?_|refine zcl ?_|refine zcm ?_|refine zcn ?_)
   first|refine zcp (by kernel_rfl) ?_|refine zcq PP_mixed (by kernel_rfl) (by kernel_rfl) ?_
   repeat' (refine zap rfl ?_; first|refine zbx rfl ?_|refine reg_lookupV (kv := kvT) (a := pe.1) ((RdV.of X2).mono (fun p hp => .tail _ hp)) rfl rfl (h2.look pe.1) ?_|refine zan rfl ?_|refine zaa 0 rfl rfl rfl ?_)
   all_goals (refine zch ?_; repeat (first|refine zck ?_|refine zcl ?_|refine zcm ?_|refine zcn ?_))
   by_cases hz : pe.1 ∈ Z2
   · refine zcj (by show Value.bool (!decide (pe.1 ∈ Z2)) = _; rw [decide_eq_true hz]; rfl) ?_
     repeat (first|refine zck ?_|refine zcl ?_|refine zcm ?_|refine zcn ?_|refine zco ?_)
     refine zeq ⟨rfl, (seen ++ [e.born], acc ++ [pe.1]), ⟨rfl, rfl, trivial⟩, ⟨rfl, hM.step X1.ok X1.born h1.1 kvT_inj he hs k1, fun z hz2 => ?_⟩, leftS_next he hs⟩
     rcases List.mem_append.1 hz2 with h | h
     · exact hacc z h
     · rw [List.mem_singleton.1 h]; exact hz
   · refine zci (by show Value.bool (!decide (pe.1 ∈ Z2)) = _; rw [decide_eq_false hz]; rfl) ?_
     repeat (first|refine zck ?_|refine zcl ?_|refine zcm ?_|refine zcn ?_|refine zco ?_)
     repeat (first|refine zck ?_|refine zcl ?_|refine zcm ?_|refine zcn ?_)
     first|refine zcp (by kernel_rfl) ?_|refine zcq PP_mixed (by kernel_rfl) (by kernel_rfl) ?_
     repeat' (refine zap rfl ?_; first|refine zan rfl ?_)
     all_goals (refine zch ?_; repeat (first|refine zck ?_|refine zcl ?_|refine zcm ?_|refine zcn ?_))
     exact cut_ret (zek (zel [] rfl (zem rfl rfl ⟨rfl, false, rfl, (fun h => by cases h), rfl⟩)))
end Go.Proofs.YtikackodhiollaaGreatDoor
namespace Go.Proofs.YtikackodhiollaaGreatDoor
variable (w0 : World)
open Go.Vc Sim Sim.Tx
set_option maxHeartbeats 8000000
theorem ind_of {a : Tx.Wd} {i z : Nat} {x y : TR} (h1 : a.ts[i]? = some (x.o, x.g)) (h2 : a.ts[z]? = some (y.o, y.g)) {op1 a1 v1 n1 op2 a2 v2 n2 : Int} (e1 : actOf x = actV op1 a1 v1 n1) (e2 : actOf y = actV op2 a2 v2 n2) (l1 : liveB x = true) (l2 : liveB y = true) :
   (a1 = 0 ∨ a1 = 1) ∧ (a2 = 0 ∨ a2 = 1) ∧ indB op1 a1 op2 a2 = a.ind i z := by
 have p01 : ∀ b : Bool, plI b = 0 ∨ plI b = 1 := fun b => by cases b; exact .inl rfl; exact .inr rfl
 have pne : ∀ b c : Bool, decide (plI b ≠ plI c) = decide (b ≠ c) := fun b c => by cases b <;> cases c <;> rfl
 have hs1 : a.stt i = stt x.o x.g := by unfold Tx.Wd.stt; rw [h1]
 have hs2 : a.stt z = stt y.o y.g := by unfold Tx.Wd.stt; rw [h2]
 have hp1 : a.pl i = x.o.pl := by unfold Tx.Wd.pl; rw [h1]
 have hp2 : a.pl z = y.o.pl := by unfold Tx.Wd.pl; rw [h2]
 unfold Tx.Wd.ind
 rw [hs1, hs2, hp1, hp2]
 unfold actOf at e1 e2
 unfold liveB at l1 l2
 have inj : ∀ {o a v n o' a' v' n' : Int}, actV o a v n = actV o' a' v' n' → o = o' ∧ a = a' := fun {o a v n o' a' v' n'} h => by
   injection h with h
   injection h with h
   injection h with h1 h
   injection h with h2 _
   injection h1 with _ h1
   injection h2 with _ h2
   exact ⟨h1, h2⟩
 cases ha : stt x.o x.g with
 | done => rw [ha] at l1; cases l1
 | look =>
   rw [ha] at e1
   obtain ⟨rfl, rfl⟩ := inj e1
   cases hb : stt y.o y.g with
   | done => rw [hb] at l2; cases l2
   | look =>
     rw [hb] at e2
     obtain ⟨rfl, rfl⟩ := inj e2
     exact ⟨p01 _, p01 _, by unfold indB; rw [if_pos ⟨rfl, rfl⟩]⟩
   | swap w =>
     rw [hb] at e2
     obtain ⟨rfl, rfl⟩ := inj e2
     exact ⟨p01 _, p01 _, by unfold indB; rw [if_neg (by decide), if_pos (.inl rfl)]; exact pne _ _⟩
 | swap u =>
   rw [ha] at e1
   obtain ⟨rfl, rfl⟩ := inj e1
   cases hb : stt y.o y.g with
   | done => rw [hb] at l2; cases l2
   | look =>
     rw [hb] at e2
     obtain ⟨rfl, rfl⟩ := inj e2
     exact ⟨p01 _, p01 _, by unfold indB; rw [if_neg (by decide), if_pos (.inr rfl)]; exact pne _ _⟩
   | swap w =>
     rw [hb] at e2
     obtain ⟨rfl, rfl⟩ := inj e2
     exact ⟨p01 _, p01 _, by unfold indB; rw [if_neg (by decide), if_neg (by decide)]⟩
def condZ (a : Tx.Wd) (i z : Nat) : Bool := a.live z && decide (z ≠ i) && a.ind i z
theorem exAsleep (sh : Shared) (W : WoS) (a : Tx.Wd) (cnt : Nat) (h : RdWo w0 sh W a cnt) (i : Nat) (hi : i ∈ a.steps) (r : Nat) (es : List MapEntry) (clock : Nat) (ml : GM Nat) (Z : List Nat) (X : RdG kvT w0 sh r es clock ml) (hZ : StOk ml Z) (hzn : ∀ z ∈ Z, z < a.ts.length) :
   Vc.Fn PP w0 sh 35 [woV W, kvT i, .map (some r)] [] (fun v Γ => ∃ nb mo, v = .map (some nb) ∧ StOk mo (Z.filter (condZ a i)) ∧ Γ = [MapG kvT nb mo]) := by
 obtain ⟨o, g, hx0, hd⟩ := mem_steps.1 hi
 have hil : i < a.ts.length := (List.getElem?_eq_some_iff.1 hx0).1
 obtain ⟨rows, x, h2, h3, h4, h5, h6, h7⟩ := h.at hil
 have hP := exPending w0 sh W a cnt h i x rows h5 h3 h6
 have hlx : liveB x = true := by
   rw [hx0] at h7
   cases h7
   unfold liveB
   cases hs : stt x.o x.g with
   | done => exact absurd hs hd
   | look => rfl
   | swap v => rfl
 rw [hlx] at hP
 obtain ⟨op1, a1, v1, n1, ea1, ho1⟩ := act_form x
 have ho1 := ho1 hlx
 rw [ea1] at hP
 have hPz : ∀ z, z < a.ts.length → ∃ y : TR, a.ts[z]? = some (y.o, y.g) ∧ FnE PP w0 sh 59 [woV W, .int .i64 ((z : Int) + 1)] [] (.tuple #[actOf y, .bool (liveB y)]) [] := fun z hz => by
   obtain ⟨rows, y, g2, g3, g4, g5, g6, g7⟩ := h.at hz
   exact ⟨y, g7, exPending w0 sh W a cnt h z y rows g5 g3 g6⟩
 dsimp only [woV] at hP hPz ⊢
 refine zep en35 fn35 rfl rfl rfl ?_
 repeat (first|refine zck ?_|refine zcl ?_|refine zcm ?_|refine zcn ?_)
 first|refine zcp (by kernel_rfl) ?_|refine zcq PP_mixed (by kernel_rfl) (by kernel_rfl) ?_
 repeat' (refine zap rfl ?_; first|refine zaq (cs := [_, _, _, _, _, _, _, _, _]) rfl (fun t3 => ?_)|refine zaq (cs := [_, _]) rfl (fun t4 => ?_)|refine zan rfl ?_)
 all_goals (refine zch ?_; repeat (first|refine zck ?_|refine zcl ?_|refine zcm ?_|refine zcn ?_))
 refine zeb [0] rfl ?_
 refine zeb [0] rfl ?_
 repeat (first|refine zck ?_|refine zcl ?_|refine zcm ?_|refine zcn ?_)
 first|refine zcp (by kernel_rfl) ?_|refine zcq PP_mixed (by kernel_rfl) (by kernel_rfl) ?_
 repeat' (refine zap rfl ?_; first|refine zcc (fun nb => ?_)|refine zan rfl ?_)
 all_goals (refine zch ?_; repeat (first|refine zck ?_|refine zcl ?_|refine zcm ?_|refine zcn ?_))
 refine zef 0 (MapG kvT nb []) rfl (mapG_make nb) rfl ?_
 repeat (first|refine zck ?_|refine zcl ?_|refine zcm ?_|refine zcn ?_)
 first|refine zcp (by kernel_rfl) ?_|refine zcq PP_mixed (by kernel_rfl) (by kernel_rfl) ?_
 repeat' (refine zap rfl ?_; first|refine zar (fun t8 => ?_)|refine zan rfl ?_|refine zaa 0 rfl rfl rfl ?_|refine zaa 1 rfl rfl rfl ?_|refine zah [] hP rfl rfl rfl (fun p hp => .tail _ (.tail _ hp)) rfl ?_|refine zao rfl ?_|refine zae 1 rfl rfl rfl rfl rfl rfl rfl ?_)
 all_goals (refine zch ?_; repeat (first|refine zck ?_|refine zcl ?_|refine zcm ?_|refine zcn ?_))
 refine zeb [1] rfl ?_
 repeat (first|refine zck ?_|refine zcl ?_|refine zcm ?_|refine zcn ?_)
 first|refine zcp (by kernel_rfl) ?_|refine zcq PP_mixed (by kernel_rfl) (by kernel_rfl) ?_
 repeat' (refine zap rfl ?_; first|refine reg_rangeG (X.mono (fun p hp => .tail _ (.tail _ (.tail _ hp)))) rfl (fun it => ?_)|refine zan rfl ?_)
 all_goals (refine zch ?_; repeat (first|refine zck ?_|refine zcl ?_|refine zcm ?_|refine zcn ?_))
 refine run_loop (S := List Nat × GM Nat) (fun s => [(3, .pointer (some ⟨t3, 0, none⟩)), (4, .pointer (some ⟨t4, 0, none⟩)), (7, .map (some nb)), (8, .pointer (some ⟨t8, 0, none⟩)), (22, .pointer (some ⟨it, 0, none⟩))])
   (fun s Γ => Γ = [MapG kvT nb s.2, pt it (iterS r clock s.1)] ∧ ∃ acc, Met kvT es s.1 acc ∧ StOk s.2 (acc.filter (condZ a i))) (fun s => leftS es s.1) ([], []) ⟨rfl, rfl, rfl, rfl, rfl, trivial⟩ ⟨rfl, [], Met.nil, StOk.nil⟩ ?_
 rintro ⟨seen, mo⟩ Γ junk ⟨rfl, acc, hM, hmo⟩
 dsimp only at hM hmo ⊢
 have hX3 := X.mono (sh' := sh) (fun p hp => hp)
 repeat (first|refine zck ?_|refine zcl ?_|refine zcm ?_|refine zcn ?_)
 first|refine zcp (by kernel_rfl) ?_|refine zcq PP_mixed (by kernel_rfl) (by kernel_rfl) ?_
 repeat' (refine zap rfl ?_; first|refine reg_nextG 1 (X.mono (fun p hp => .tail _ (.tail _ (.tail _ hp)))) rfl rfl (fun q => rfl) (fun ha => ?_) (fun e pe he hs hpe k1 k2 => ?_)|refine zan rfl ?_)
 all_goals (refine zch ?_; repeat (first|refine zck ?_|refine zcl ?_|refine zcm ?_|refine zcn ?_))
 · refine zcj rfl ?_
   refine zer rfl rfl ?_
   repeat (first|refine zck ?_|refine zcl ?_|refine zcm ?_|refine zcn ?_|refine zco ?_)
   repeat (first|refine zck ?_|refine zcl ?_|refine zcm ?_|refine zcn ?_)
   first|refine zcp (by kernel_rfl) ?_|refine zcq PP_mixed (by kernel_rfl) (by kernel_rfl) ?_
   repeat' (refine zap rfl ?_; first|refine zan rfl ?_)
   all_goals (refine zch ?_; repeat (first|refine zck ?_|refine zcl ?_|refine zcm ?_|refine zcn ?_))
   have hdn := hM.done X.ok kvT_inj ha
   exact zeg (zek (zel [0] rfl (zem rfl rfl ⟨rfl, nb, mo, rfl, ⟨hmo.1, hmo.2.1, fun z => (hmo.2.2 z).trans (by rw [List.mem_filter, List.mem_filter, hdn.2.1, hZ.2.2])⟩, rfl⟩)))
 · refine zci rfl ?_
   have hpz : pe.1 ∈ Z := (hZ.2.2 _).1 (List.mem_map_of_mem hpe)
   obtain ⟨y, hy, hPy⟩ := hPz pe.1 (hzn _ hpz)
   obtain ⟨op2, a2, v2, n2, ea2, ho2⟩ := act_form y
   rw [ea2] at hPy
   have hlz : a.live pe.1 = liveB y := live_at hy
   have hM2 := hM.step X.ok X.born hZ.1 kvT_inj he hs k1
   repeat (first|refine zck ?_|refine zcl ?_|refine zcm ?_|refine zcn ?_)
   first|refine zcp (by kernel_rfl) ?_|refine zcq PP_mixed (by kernel_rfl) (by kernel_rfl) ?_
   repeat' (refine zap rfl ?_; first|refine reg_entryG 1 (X.mono (fun p hp => .tail _ (.tail _ (.tail _ hp)))) he k1 k2 rfl rfl ?_|refine zar (fun t10 => ?_)|refine zan rfl ?_|refine zae 2 rfl rfl rfl rfl rfl rfl rfl ?_)
   all_goals (refine zch ?_; repeat (first|refine zck ?_|refine zcl ?_|refine zcm ?_|refine zcn ?_))
   refine zeb [2] rfl ?_
   repeat (first|refine zck ?_|refine zcl ?_|refine zcm ?_|refine zcn ?_|refine zco ?_)
   repeat (first|refine zck ?_|refine zcl ?_|refine zcm ?_|refine zcn ?_)
   first|refine zcp (by kernel_rfl) ?_|refine zcq PP_mixed (by kernel_rfl) (by kernel_rfl) ?_
   repeat' (refine zap rfl ?_; first|refine zar (fun t11 => ?_)|refine zan rfl ?_|refine zaa 0 rfl rfl rfl ?_|refine zaa 3 rfl rfl rfl ?_|refine zah [] hPy rfl rfl rfl (fun p hp => .tail _ (.tail _ (.tail _ (.tail _ hp)))) rfl ?_|refine zao rfl ?_|refine zae 2 rfl rfl rfl rfl rfl rfl rfl ?_)
   all_goals (refine zch ?_; repeat (first|refine zck ?_|refine zcl ?_|refine zcm ?_|refine zcn ?_))
   refine zeb [2] rfl ?_
   repeat (first|refine zck ?_|refine zcl ?_|refine zcm ?_|refine zcn ?_|refine zco ?_)
   cases hb : liveB y with
   | false =>
     have hcz : condZ a i pe.1 = false := by unfold condZ; rw [hlz, hb]; rfl
     repeat (first|refine zck ?_|refine zcl ?_|refine zcm ?_|refine zcn ?_)
     first|refine zcp (by kernel_rfl) ?_|refine zcq PP_mixed (by kernel_rfl) (by kernel_rfl) ?_
     repeat' (refine zap rfl ?_; first|refine zak rfl ?_|refine zan rfl ?_|refine zbv rfl ?_)
     all_goals (refine zch ?_; repeat (first|refine zck ?_|refine zcl ?_|refine zcm ?_|refine zcn ?_))
     refine zcj rfl ?_
     repeat (first|refine zck ?_|refine zcl ?_|refine zcm ?_|refine zcn ?_|refine zco ?_)
     exact zeq ⟨rfl, (seen ++ [e.born], mo), ⟨rfl, rfl, rfl, rfl, rfl, trivial⟩, ⟨rfl, acc ++ [pe.1], hM2, by rw [List.filter_append, List.filter_cons, if_neg (by rw [hcz]; decide), List.filter_nil, List.append_nil]; exact hmo⟩, leftS_next he hs⟩
   | true =>
     by_cases hzi : pe.1 = i
     · have hcz : condZ a i pe.1 = false := by unfold condZ; rw [decide_eq_false (fun h => h hzi)]; simp
       have hzi2 : ((pe.1 : Nat) : Int) = i := by omega
       repeat (first|refine zck ?_|refine zcl ?_|refine zcm ?_|refine zcn ?_)
       first|refine zcp (by kernel_rfl) ?_|refine zcq PP_mixed (by kernel_rfl) (by kernel_rfl) ?_
       repeat' (refine zap rfl ?_; first|refine zaj rfl ?_|refine zak rfl ?_|refine zan rfl ?_|refine zaa 1 rfl rfl rfl ?_|refine zaa 3 rfl rfl rfl ?_|refine zao rfl ?_|refine zbf rfl rfl (by omega) ?_|refine zbu rfl ?_|refine zbv rfl ?_)
       all_goals (refine zch ?_; repeat (first|refine zck ?_|refine zcl ?_|refine zcm ?_|refine zcn ?_))
       refine zcj rfl ?_
       repeat (first|refine zck ?_|refine zcl ?_|refine zcm ?_|refine zcn ?_|refine zco ?_)
       exact zeq ⟨rfl, (seen ++ [e.born], mo), ⟨rfl, rfl, rfl, rfl, rfl, trivial⟩, ⟨rfl, acc ++ [pe.1], hM2, by rw [List.filter_append, List.filter_cons, if_neg (by rw [hcz]; decide), List.filter_nil, List.append_nil]; exact hmo⟩, leftS_next he hs⟩
     · have hzi2 : ((pe.1 : Nat) : Int) ≠ i := by omega
       obtain ⟨ga1, ga2, hind⟩ := ind_of h7 hy ea1 ea2 hlx hb
       have hI := exInd w0 op1 a1 v1 n1 op2 a2 v2 n2 ho1 (ho2 hb) ga1 ga2
       rw [hind] at hI
       have hcz : condZ a i pe.1 = a.ind i pe.1 := by unfold condZ; rw [hlz, hb, decide_eq_true hzi]; simp
       cases hq : a.ind i pe.1 with
       | false =>
         rw [hq] at hI hcz
         repeat (first|refine zck ?_|refine zcl ?_|refine zcm ?_|refine zcn ?_)
         first|refine zcp (by kernel_rfl) ?_|refine zcq PP_mixed (by kernel_rfl) (by kernel_rfl) ?_
         repeat' (refine zap rfl ?_; first|refine zaj rfl ?_|refine zan rfl ?_|refine zaa 0 rfl rfl rfl ?_|refine zaa 1 rfl rfl rfl ?_|refine zaa 2 rfl rfl rfl ?_|refine zaa 3 rfl rfl rfl ?_|refine zah [] hI rfl rfl rfl zdj rfl ?_|refine zao rfl ?_|refine zbe rfl rfl (by omega) ?_|refine zbu rfl ?_)
         all_goals (refine zch ?_; repeat (first|refine zck ?_|refine zcl ?_|refine zcm ?_|refine zcn ?_))
         refine zcj rfl ?_
         repeat (first|refine zck ?_|refine zcl ?_|refine zcm ?_|refine zcn ?_|refine zco ?_)
         exact zeq ⟨rfl, (seen ++ [e.born], mo), ⟨rfl, rfl, rfl, rfl, rfl, trivial⟩, ⟨rfl, acc ++ [pe.1], hM2, by rw [List.filter_append, List.filter_cons, if_neg (by rw [hcz]; decide), List.filter_nil, List.append_nil]; exact hmo⟩, leftS_next he hs⟩
       | true =>
         rw [hq] at hI hcz
         repeat (first|refine zck ?_|refine zcl ?_|refine zcm ?_|refine zcn ?_)
         first|refine zcp (by kernel_rfl) ?_|refine zcq PP_mixed (by kernel_rfl) (by kernel_rfl) ?_
         repeat' (refine zap rfl ?_; first|refine zaj rfl ?_|refine zan rfl ?_|refine zaa 0 rfl rfl rfl ?_|refine zaa 1 rfl rfl rfl ?_|refine zaa 2 rfl rfl rfl ?_|refine zaa 3 rfl rfl rfl ?_|refine zah [] hI rfl rfl rfl zdj rfl ?_|refine zao rfl ?_|refine zbe rfl rfl (by omega) ?_|refine zbu rfl ?_)
         all_goals (refine zch ?_; repeat (first|refine zck ?_|refine zcl ?_|refine zcm ?_|refine zcn ?_))
         refine zci rfl ?_
         repeat (first|refine zck ?_|refine zcl ?_|refine zcm ?_|refine zcn ?_|refine zco ?_)
         repeat (first|refine zck ?_|refine zcl ?_|refine zcm ?_|refine zcn ?_)
         first|refine zcp (by kernel_rfl) ?_|refine zcq PP_mixed (by kernel_rfl) (by kernel_rfl) ?_
         repeat' (refine zap rfl ?_; first|refine reg_mapUpdateG (kv := kvT) (a := pe.1) 0 rfl rfl rfl rfl rfl ?_|refine zan rfl ?_|refine zaa 1 rfl rfl rfl ?_)
         all_goals (refine zch ?_; repeat (first|refine zck ?_|refine zcl ?_|refine zcm ?_|refine zcn ?_))
         have hin := hmo.ins pe.1
         exact zeq ⟨rfl, (seen ++ [e.born], _), ⟨rfl, rfl, rfl, rfl, rfl, trivial⟩, ⟨rfl, acc ++ [pe.1], hM2, ⟨hin.1, hin.2.1, fun z => (hin.2.2 z).trans (by rw [List.filter_append, List.filter_cons, if_pos hcz, List.filter_nil, List.mem_append, List.mem_cons, List.mem_singleton]; exact Or.comm)⟩⟩, leftS_next he hs⟩
end Go.Proofs.YtikackodhiollaaGreatDoor
namespace Sim.Tx
open Go Go.Vc Sim
structure Ent where
 x : ByteArray
 a : Option Addr
 c : Nat
 ms : List (Nat × GM Nat)
def Ent.val (e : Ent) : Value := .slice e.a e.ms.length e.c
def mapE (r : Nat) : List Value := [.map (some r)]
def seenG (ents : List Ent) : GM ByteArray := ents.map fun e => (e.x, e.val)
theorem seenG_look {ents : List Ent} {x : ByteArray} : (lookG (seenG ents) x = none ∧ ∀ e ∈ ents, e.x ≠ x) ∨ ∃ e ∈ ents, e.x = x ∧ lookG (seenG ents) x = some e.val := by
 induction ents with
 | nil => exact .inl ⟨rfl, fun e he => by cases he⟩
 | cons e l ih =>
   unfold seenG at ih ⊢
   simp only [List.map_cons, lookG]
   by_cases h : e.x = x
   · exact .inr ⟨e, .head _, h, by rw [if_pos h]⟩
   · rw [if_neg h]
     rcases ih with ⟨h1, h2⟩ | ⟨e', h1, h2, h3⟩
     · exact .inl ⟨h1, fun e' he' => by
         rcases List.mem_cons.1 he' with rfl | he'
         · exact h
         · exact h2 e' he'⟩
     · exact .inr ⟨e', .tail _ h1, h2, h3⟩
end Sim.Tx
namespace Go.Proofs.YtikackodhiollaaGreatDoor
variable (w0 : World)
open Go.Vc Sim Sim.Tx
set_option maxHeartbeats 8000000
theorem exIndexF (sh : Shared) (a : Option Addr) (c : Nat) (l : List Nat) (hl : RdSl w0 sh mapE 1 (.slice a l.length c) l) (hb : l.length ≤ 2000000000) (f : FuncId) (cap : Value) (Φ : Nat → Prop)
   (hf : ∀ r ∈ l, Vc.Fn PP w0 sh f [.map (some r), cap] [] (fun v Γ => ∃ B, v = .bool B ∧ (B = true → Φ r) ∧ Γ = [])) :
   Vc.Fn PP w0 sh 105 [.slice a l.length c, .func (.func f) #[] #[cap]] [] (fun v Γ => ∃ z : Int, v = .int .i64 z ∧ (0 ≤ z → ∃ r ∈ l, Φ r) ∧ Γ = []) := by
 refine zep en105 fn105 rfl rfl rfl ?_
 repeat (first|refine zck ?_|refine zcl ?_|refine zcm ?_|refine zcn ?_)
 first|refine zcp (by kernel_rfl) ?_|refine zcq PP_mixed (by kernel_rfl) (by kernel_rfl) ?_
 repeat' (refine zap rfl ?_; first|refine zan rfl ?_)
 all_goals (refine zch ?_; repeat (first|refine zck ?_|refine zcl ?_|refine zcm ?_|refine zcn ?_))
 first|refine zcp (by kernel_rfl) ?_|refine zcq PP_mixed (by kernel_rfl) (by kernel_rfl) ?_
 repeat' (refine zap rfl ?_; first|refine zan rfl ?_|refine zce rfl ?_)
 all_goals (refine zch ?_; repeat (first|refine zck ?_|refine zcl ?_|refine zcm ?_|refine zcn ?_))
 refine run_loop (S := Nat) (fun i => [(0, .slice a l.length c), (1, .func (.func f) #[] #[cap]), (7, .int .i64 l.length), (8, .int .i64 i)])
   (fun i Γ => Γ = [] ∧ i ≤ l.length) (fun i => l.length - i) 0 ⟨rfl, rfl, rfl, rfl, trivial⟩ ⟨rfl, Nat.zero_le _⟩ ?_
 rintro i Γ junk ⟨rfl, hi⟩
 by_cases he : i = l.length
 · subst he
   repeat (first|refine zck ?_|refine zcl ?_|refine zcm ?_|refine zcn ?_)
   first|refine zcp (by kernel_rfl) ?_|refine zcq PP_mixed (by kernel_rfl) (by kernel_rfl) ?_
   repeat' (refine zap rfl ?_; first|refine zbh rfl rfl (by omega) ?_)
   all_goals (refine zch ?_; repeat (first|refine zck ?_|refine zcl ?_|refine zcm ?_|refine zcn ?_))
   refine zcj rfl ?_
   refine zer rfl rfl ?_
   repeat (first|refine zck ?_|refine zcl ?_|refine zcm ?_|refine zcn ?_|refine zco ?_)
   repeat (first|refine zck ?_|refine zcl ?_|refine zcm ?_|refine zcn ?_)
   first|refine zcp (by kernel_rfl) ?_|refine zcq PP_mixed (by kernel_rfl) (by kernel_rfl) ?_
   repeat' (refine zap rfl ?_; first|refine zan rfl ?_)
   all_goals (refine zch ?_; repeat (first|refine zck ?_|refine zcl ?_|refine zcm ?_|refine zcn ?_))
   exact zej rfl ⟨-1, rfl, (fun h => absurd h (by decide)), rfl⟩
 · obtain ⟨r, hr⟩ : ∃ r, l[i]? = some r := ⟨_, List.getElem?_eq_getElem (by omega)⟩
   obtain ⟨bb, off, cc, T, fr, ea, e2, _, e3⟩ := hl.cells hr
   subst ea
   have hfr := hf r (List.mem_of_getElem? hr)
   repeat (first|refine zck ?_|refine zcl ?_|refine zcm ?_|refine zcn ?_)
   first|refine zcp (by kernel_rfl) ?_|refine zcq PP_mixed (by kernel_rfl) (by kernel_rfl) ?_
   repeat' (refine zap rfl ?_; first|refine zbg rfl rfl (by omega) ?_)
   all_goals (refine zch ?_; repeat (first|refine zck ?_|refine zcl ?_|refine zcm ?_|refine zcn ?_))
   refine zci rfl ?_
   repeat (first|refine zck ?_|refine zcl ?_|refine zcm ?_|refine zcn ?_|refine zco ?_)
   repeat (first|refine zck ?_|refine zcl ?_|refine zcm ?_|refine zcn ?_)
   first|refine zcp (by kernel_rfl) ?_|refine zcq PP_mixed (by kernel_rfl) (by kernel_rfl) ?_
   repeat' (refine zap rfl ?_; first|refine zan rfl ?_)
   all_goals (refine zch ?_; repeat (first|refine zck ?_|refine zcl ?_|refine zcm ?_|refine zcn ?_))
   repeat (first|refine zck ?_|refine zcl ?_|refine zcm ?_|refine zcn ?_|refine zco ?_)
   repeat (first|refine zck ?_|refine zcl ?_|refine zcm ?_|refine zcn ?_)
   first|refine zcp (by kernel_rfl) ?_|refine zcq PP_mixed (by kernel_rfl) (by kernel_rfl) ?_
   repeat' (refine zap rfl ?_; first|refine zas rfl rfl (by omega) ?_|refine zad rfl e2 (e3 0 _ rfl _ (by omega)) ?_|refine zan rfl ?_|(refine zai [] hfr rfl rfl rfl (fun _ hp => hp) ?_; rintro v Γ ⟨B, rfl, hB, rfl⟩))
   all_goals (refine zch ?_; repeat (first|refine zck ?_|refine zcl ?_|refine zcm ?_|refine zcn ?_))
   cases B with
   | true =>
     refine zci rfl ?_
     repeat (first|refine zck ?_|refine zcl ?_|refine zcm ?_|refine zcn ?_|refine zco ?_)
     repeat (first|refine zck ?_|refine zcl ?_|refine zcm ?_|refine zcn ?_)
     first|refine zcp (by kernel_rfl) ?_|refine zcq PP_mixed (by kernel_rfl) (by kernel_rfl) ?_
     repeat' (refine zap rfl ?_; first|refine zan rfl ?_)
     all_goals (refine zch ?_; repeat (first|refine zck ?_|refine zcl ?_|refine zcm ?_|refine zcn ?_))
     exact cut_ret (zek (zem rfl rfl ⟨_, rfl, (fun _ => ⟨r, List.mem_of_getElem? hr, hB rfl⟩), rfl⟩))
   | false =>
     refine zcj rfl ?_
     repeat (first|refine zck ?_|refine zcl ?_|refine zcm ?_|refine zcn ?_|refine zco ?_)
     repeat (first|refine zck ?_|refine zcl ?_|refine zcm ?_|refine zcn ?_)
     first|refine zcp (by kernel_rfl) ?_|refine zcq PP_mixed (by kernel_rfl) (by kernel_rfl) ?_
     repeat' (refine zap rfl ?_; first|refine zan rfl ?_|refine zau rfl rfl (by omega) ?_)
     all_goals (refine zch ?_; repeat (first|refine zck ?_|refine zcl ?_|refine zcm ?_|refine zcn ?_))
     exact zeq ⟨rfl, i + 1, ⟨rfl, rfl, rfl, zes (by omega), trivial⟩, ⟨rfl, by omega⟩, by omega⟩
theorem exContainsF (sh : Shared) (a : Option Addr) (c : Nat) (l : List Nat) (hl : RdSl w0 sh mapE 1 (.slice a l.length c) l) (hb : l.length ≤ 2000000000) (f : FuncId) (cap : Value) (Φ : Nat → Prop)
   (hf : ∀ r ∈ l, Vc.Fn PP w0 sh f [.map (some r), cap] [] (fun v Γ => ∃ B, v = .bool B ∧ (B = true → Φ r) ∧ Γ = [])) :
   Vc.Fn PP w0 sh 64 [.slice a l.length c, .func (.func f) #[] #[cap]] [] (fun v Γ => ∃ B, v = .bool B ∧ (B = true → ∃ r ∈ l, Φ r) ∧ Γ = []) := by
 have hI := exIndexF w0 sh a c l hl hb f cap Φ hf
 refine zep en64 fn64 rfl rfl rfl ?_
 repeat (first|refine zck ?_|refine zcl ?_|refine zcm ?_|refine zcn ?_)
 first|refine zcp (by kernel_rfl) ?_|refine zcq PP_mixed (by kernel_rfl) (by kernel_rfl) ?_
 repeat' (refine zap rfl ?_; first|refine zan rfl ?_)
 all_goals (refine zch ?_; repeat (first|refine zck ?_|refine zcl ?_|refine zcm ?_|refine zcn ?_))
 first|refine zcp (by kernel_rfl) ?_|refine zcq PP_mixed (by kernel_rfl) (by kernel_rfl) ?_
 repeat' (refine zap rfl ?_; first|refine zan rfl ?_|(refine zai [] hI rfl rfl rfl (fun _ hp => hp) ?_; rintro v Γ ⟨z, rfl, hz, rfl⟩)|refine zbt rfl rfl ?_)
 all_goals (refine zch ?_; repeat (first|refine zck ?_|refine zcl ?_|refine zcm ?_|refine zcn ?_))
 refine zej rfl ⟨decide (0 ≤ z), rfl, (fun h => hz (of_decide_eq_true h)), rfl⟩
structure RdEnt (w0 : World) (sh : Shared) (e : Ent) : Prop where
 row : RdSl w0 sh mapE 1 (.slice e.a e.ms.length e.c) (e.ms.map (·.1))
 sets : ∀ p ∈ e.ms, ∃ es clock, RdG kvT w0 sh p.1 es clock p.2
abbrev wkO (most : Int) (rs rf : Nat) : Obj := .cells (List.toArray [.int .i64 most, .map (some rs), .map (some rf)]) 95 (0, 0)
theorem exKnown (sh : Shared) (kb rs rf : Nat) (most : Int) (hk : (kb, wkO most rs rf) ∈ sh) (ents : List Ent) (es : List MapEntry) (clock : Nat) (X : RdG kvS w0 sh rs es clock (seenG ents)) (he : ∀ e ∈ ents, RdEnt w0 sh e ∧ e.ms.length ≤ 2000000000)
   (hZ : ∀ e ∈ ents, ∀ p ∈ e.ms, ∃ Z, StOk p.2 Z) (r : Nat) (es2 : List MapEntry) (clock2 : Nat) (ml : GM Nat) (Z : List Nat) (X2 : RdG kvT w0 sh r es2 clock2 ml) (hml : StOk ml Z) (x : ByteArray) :
   Vc.Fn PP w0 sh 33 [.pointer (some ⟨kb, 0, none⟩), .string x, .map (some r)] [] (fun v Γ => ∃ B, v = .bool B ∧ (B = true → ∃ e ∈ ents, e.x = x ∧ ∃ p ∈ e.ms, ∀ Z', StOk p.2 Z' → ∀ z ∈ Z', z ∈ Z) ∧ Γ = []) := by
 have key : ∃ (a : Option Addr) (c : Nat) (l : List Nat), (lookG (seenG ents) x).getD (.slice none 0 0) = .slice a l.length c ∧ RdSl w0 sh mapE 1 (.slice a l.length c) l ∧ l.length ≤ 2000000000 ∧ ∀ q ∈ l, ∃ e ∈ ents, e.x = x ∧ ∃ p ∈ e.ms, p.1 = q := by
   rcases seenG_look (ents := ents) (x := x) with ⟨h1, _⟩ | ⟨e, h1, h2, h3⟩
   · exact ⟨none, 0, [], by rw [h1]; rfl, RdSl.nil, Nat.zero_le _, fun q hq => by cases hq⟩
   · obtain ⟨⟨h4, h5⟩, h6⟩ := he e h1
     refine ⟨e.a, e.c, e.ms.map (·.1), by rw [h3, List.length_map]; rfl, by rw [List.length_map]; exact h4, by rw [List.length_map]; exact h6, fun q hq => ?_⟩
     obtain ⟨p, hp, rfl⟩ := List.mem_map.1 hq
     exact ⟨e, h1, h2, p, hp, rfl⟩
 obtain ⟨a, c, l, k1, k2, k3, k4⟩ := key
 have hcl : ∀ (t5 : Nat) (sh' : Shared), (t5, Obj.cells (List.toArray [.map (some r)]) 74 (0, 0)) ∈ sh' → (∀ p ∈ sh, p ∈ sh') → ∀ q ∈ l, Vc.Fn PP w0 sh' 65 [.map (some q), .pointer (some ⟨t5, 0, none⟩)] []
     (fun v Γ => ∃ B, v = .bool B ∧ (B = true → ∃ e ∈ ents, e.x = x ∧ ∃ p ∈ e.ms, p.1 = q ∧ ∀ Z', StOk p.2 Z' → ∀ z ∈ Z', z ∈ Z) ∧ Γ = []) := fun t5 sh' ht5 hs q hq => by
   obtain ⟨e, h1, h2, p, h3, h4⟩ := k4 q hq
   obtain ⟨es1, c1, h5⟩ := (he e h1).1.sets p h3
   obtain ⟨Z1, hZ1⟩ := hZ e h1 p h3
   rw [h4] at h5
   have hW := exWithin w0 sh' q r es1 es2 c1 clock2 p.2 ml Z1 Z (h5.mono hs) (X2.mono hs) hZ1 hml
   refine zep en65 fn65 rfl rfl rfl ?_
   repeat (first|refine zck ?_|refine zcl ?_|refine zcm ?_|refine zcn ?_)
   first|refine zcp (by kernel_rfl) ?_|refine zcq PP_mixed (by kernel_rfl) (by kernel_rfl) ?_
   repeat' (refine zap rfl ?_; first|refine zan rfl ?_)
   all_goals (refine zch ?_; repeat (first|refine zck ?_|refine zcl ?_|refine zcm ?_|refine zcn ?_))
   first|refine zcp (by kernel_rfl) ?_|refine zcq PP_mixed (by kernel_rfl) (by kernel_rfl) ?_
   repeat' (refine zap rfl ?_; first|refine zad rfl (fun hF Γ w g1 g2 => (g2.frame (g1 _ ht5)).2) (show rd false 1 [Value.map (some r)] 0 = some _ from rfl) ?_|refine zan rfl ?_|(refine zai [] hW rfl rfl rfl (fun _ hp => hp) ?_; rintro v Γ ⟨B, rfl, hB, rfl⟩))
   all_goals (refine zch ?_; repeat (first|refine zck ?_|refine zcl ?_|refine zcm ?_|refine zcn ?_))
   exact zej rfl ⟨B, rfl, (fun h => ⟨e, h1, h2, p, h3, h4, fun Z' hZ' z hz => hB h z ((hZ1.2.2 z).1 ((hZ'.2.2 z).2 hz))⟩), rfl⟩
 refine zep en33 fn33 rfl rfl rfl ?_
 repeat (first|refine zck ?_|refine zcl ?_|refine zcm ?_|refine zcn ?_)
 first|refine zcp (by kernel_rfl) ?_|refine zcq PP_mixed (by kernel_rfl) (by kernel_rfl) ?_
 repeat' (refine zap rfl ?_; first|refine zaq (cs := [_]) rfl (fun t5 => ?_)|refine zan rfl ?_)
 all_goals (refine zch ?_; repeat (first|refine zck ?_|refine zcl ?_|refine zcm ?_|refine zcn ?_))
 refine zeb [0] rfl ?_
 have hCt := exContainsF w0 _ a c l (k2.mono (sh' := (t5, Obj.cells (List.toArray [.map (some r)]) 74 (0, 0)) :: sh) (fun p hp => .tail _ hp)) (by omega) 65 (.pointer (some ⟨t5, 0, none⟩)) _ (hcl t5 _ (.head _) (fun p hp => .tail _ hp))
 repeat (first|refine zck ?_|refine zcl ?_|refine zcm ?_|refine zcn ?_)
 first|refine zcp (by kernel_rfl) ?_|refine zcq PP_mixed (by kernel_rfl) (by kernel_rfl) ?_
 repeat' (refine zap rfl ?_; first|refine zad rfl (fun hF Γ w g1 g2 => (g2.frame (g1 _ (.tail _ hk))).2) (show rd false 1 [Value.int .i64 most, Value.map (some rs), Value.map (some rf)] 1 = some _ from rfl) ?_|refine reg_lookupV (kv := kvS) (a := x) ((RdV.of X).mono (fun p hp => .tail _ hp)) rfl rfl k1 ?_|refine zan rfl ?_|(refine zai [] hCt rfl rfl rfl (fun _ hp => hp) ?_; rintro v Γ ⟨B, rfl, hB, rfl⟩)|refine zao rfl ?_)
 all_goals (refine zch ?_; repeat (first|refine zck ?_|refine zcl ?_|refine zcm ?_|refine zcn ?_))
 exact zej rfl ⟨B, rfl, (fun h => let ⟨q, _, e, h1, h2, p, h3, _, h4⟩ := hB h; ⟨e, h1, h2, p, h3, h4⟩), rfl⟩
end Go.Proofs.YtikackodhiollaaGreatDoor
namespace Go.Proofs.YtikackodhiollaaGreatDoor
variable (w0 : World)
open Go.Vc Sim Sim.Tx
set_option maxHeartbeats 8000000
theorem wRef : FnE PP w0 [] 75 [.int .i64 0, .int .i64 0] [] (.tuple #[.int .u32 0, .int .i64 3]) [] := by
 refine zep en75 fn75 rfl rfl rfl ?_
 repeat' (first|refine zck ?_|refine zcp (by kernel_rfl) ?_|(refine zap rfl ?_; first|refine zak rfl ?_|refine zan rfl ?_|refine zan rfl ?_|refine zbg rfl rfl (by omega) ?_|refine zbu rfl ?_)|refine zch ?_|refine zci rfl ?_)
 exact zei rfl ⟨rfl, rfl⟩
theorem wWho : FnE PP w0 [] 40 [.int .u32 0] [] (.tuple #[.int .i64 0, .int .i64 0]) [] := by
 have hR := wRef w0
 refine zep en40 fn40 rfl rfl rfl ?_
 repeat (first|refine zck ?_|refine zcl ?_|refine zcm ?_|refine zcn ?_)
 first|refine zcp (by kernel_rfl) ?_|refine zcq PP_mixed (by kernel_rfl) (by kernel_rfl) ?_
 repeat' (refine zap rfl ?_; first|refine zan rfl ?_)
 all_goals (refine zch ?_; repeat (first|refine zck ?_|refine zcl ?_|refine zcm ?_|refine zcn ?_))
 first|refine zcp (by kernel_rfl) ?_|refine zcq PP_mixed (by kernel_rfl) (by kernel_rfl) ?_
 repeat' (refine zap rfl ?_; first|refine reg_shr (kd := .u32) (q := 24) rfl rfl (by decide) ?_|refine reg_andE (r := 0) rfl rfl (by decide) ?_|refine reg_convE (r := 0) rfl (by decide) ?_|refine zan rfl ?_)
 all_goals (refine zch ?_; repeat (first|refine zck ?_|refine zcl ?_|refine zcm ?_|refine zcn ?_))
 repeat (first|refine zck ?_|refine zcl ?_|refine zcm ?_|refine zcn ?_|refine zco ?_)
 repeat (first|refine zck ?_|refine zcl ?_|refine zcm ?_|refine zcn ?_)
 first|refine zcp (by kernel_rfl) ?_|refine zcq PP_mixed (by kernel_rfl) (by kernel_rfl) ?_
 repeat' (refine zap rfl ?_; first|refine zan rfl ?_|refine zah [] hR rfl rfl rfl zdj rfl ?_)
 all_goals (refine zch ?_; repeat (first|refine zck ?_|refine zcl ?_|refine zcm ?_|refine zcn ?_))
 repeat (first|refine zck ?_|refine zcl ?_|refine zcm ?_|refine zcn ?_|refine zco ?_)
 repeat (first|refine zck ?_|refine zcl ?_|refine zcm ?_|refine zcn ?_)
 first|refine zcp (by kernel_rfl) ?_|refine zcq PP_mixed (by kernel_rfl) (by kernel_rfl) ?_
 repeat' (refine zap rfl ?_; first|refine zan rfl ?_|refine zbe rfl rfl (by omega) ?_)
 all_goals (refine zch ?_; repeat (first|refine zck ?_|refine zcl ?_|refine zcm ?_|refine zcn ?_))
 refine zci rfl ?_
 repeat (first|refine zck ?_|refine zcl ?_|refine zcm ?_|refine zcn ?_|refine zco ?_)
 repeat (first|refine zck ?_|refine zcl ?_|refine zcm ?_|refine zcn ?_)
 first|refine zcp (by kernel_rfl) ?_|refine zcq PP_mixed (by kernel_rfl) (by kernel_rfl) ?_
 repeat' (refine zap rfl ?_; first|refine zan rfl ?_)
 all_goals (refine zch ?_; repeat (first|refine zck ?_|refine zcl ?_|refine zcm ?_|refine zcn ?_))
 exact zei rfl ⟨rfl, rfl⟩
theorem wKind (v : Int) : FnE PP w0 [] 37 [wordV v] [] (.int .i64 0) [] := by
 have hW := wWho w0
 refine zep en37 fn37 rfl rfl rfl ?_
 repeat (first|refine zck ?_|refine zcl ?_|refine zcm ?_|refine zcn ?_)
 first|refine zcp (by kernel_rfl) ?_|refine zcq PP_mixed (by kernel_rfl) (by kernel_rfl) ?_
 repeat' (refine zap rfl ?_; first|refine zan rfl ?_|refine zaq (cs := [_, _, _]) rfl (fun nb => ?_))
 all_goals (refine zch ?_; repeat (first|refine zck ?_|refine zcl ?_|refine zcm ?_|refine zcn ?_))
 refine zeb [0] rfl ?_
 repeat (first|refine zck ?_|refine zcl ?_|refine zcm ?_|refine zcn ?_)
 first|refine zcp (by kernel_rfl) ?_|refine zcq PP_mixed (by kernel_rfl) (by kernel_rfl) ?_
 repeat' (refine zap rfl ?_; first|refine zan rfl ?_|refine zaa 0 rfl rfl rfl ?_|refine zah [] hW rfl rfl rfl zdj rfl ?_|refine zao rfl ?_)
 all_goals (refine zch ?_; repeat (first|refine zck ?_|refine zcl ?_|refine zcm ?_|refine zcn ?_))
 repeat (first|refine zck ?_|refine zcl ?_|refine zcm ?_|refine zcn ?_|refine zco ?_)
 repeat (first|refine zck ?_|refine zcl ?_|refine zcm ?_|refine zcn ?_)
 first|refine zcp (by kernel_rfl) ?_|refine zcq PP_mixed (by kernel_rfl) (by kernel_rfl) ?_
 repeat' (refine zap rfl ?_; first|refine zan rfl ?_|refine zaa 0 rfl rfl rfl ?_|refine zao rfl ?_|refine zbc rfl rfl (by omega) ?_)
 all_goals (refine zch ?_; repeat (first|refine zck ?_|refine zcl ?_|refine zcm ?_|refine zcn ?_))
 refine zci rfl ?_
 repeat (first|refine zck ?_|refine zcl ?_|refine zcm ?_|refine zcn ?_|refine zco ?_)
 repeat (first|refine zck ?_|refine zcl ?_|refine zcm ?_|refine zcn ?_)
 first|refine zcp (by kernel_rfl) ?_|refine zcq PP_mixed (by kernel_rfl) (by kernel_rfl) ?_
 repeat' (refine zap rfl ?_; first|refine zan rfl ?_)
 all_goals (refine zch ?_; repeat (first|refine zck ?_|refine zcl ?_|refine zcm ?_|refine zcn ?_))
 exact zej rfl ⟨rfl, rfl⟩
theorem wText (ht : TabOk w0) (v : Int) (hv : I64 v) : FnE PP w0 [] 20 [wordV v] [] (.string (numB v)) [] := by
 have hK := wKind w0 v
 have hF := fmt_spec w0 ht [] v hv
 refine zep en20 fn20 rfl rfl rfl ?_
 repeat (first|refine zck ?_|refine zcl ?_|refine zcm ?_|refine zcn ?_)
 first|refine zcp (by kernel_rfl) ?_|refine zcq PP_mixed (by kernel_rfl) (by kernel_rfl) ?_
 repeat' (refine zap rfl ?_; first|refine zan rfl ?_|refine zaq (cs := [_, _, _]) rfl (fun nb => ?_))
 all_goals (refine zch ?_; repeat (first|refine zck ?_|refine zcl ?_|refine zcm ?_|refine zcn ?_))
 refine zeb [0] rfl ?_
 repeat (first|refine zck ?_|refine zcl ?_|refine zcm ?_|refine zcn ?_)
 first|refine zcp (by kernel_rfl) ?_|refine zcq PP_mixed (by kernel_rfl) (by kernel_rfl) ?_
 repeat' (refine zap rfl ?_; first|refine zan rfl ?_|refine zaa 0 rfl rfl rfl ?_|refine zah [] hK rfl rfl rfl zdj rfl ?_)
 all_goals (refine zch ?_; repeat (first|refine zck ?_|refine zcl ?_|refine zcm ?_|refine zcn ?_))
 repeat (first|refine zck ?_|refine zcl ?_|refine zcm ?_|refine zcn ?_|refine zco ?_)
 repeat (first|refine zck ?_|refine zcl ?_|refine zcm ?_|refine zcn ?_)
 first|refine zcp (by kernel_rfl) ?_|refine zcq PP_mixed (by kernel_rfl) (by kernel_rfl) ?_
 repeat' (refine zap rfl ?_; first|refine zan rfl ?_|refine zbd rfl rfl (by omega) ?_)
 all_goals (refine zch ?_; repeat (first|refine zck ?_|refine zcl ?_|refine zcm ?_|refine zcn ?_))
 refine zcj rfl ?_
 repeat (first|refine zck ?_|refine zcl ?_|refine zcm ?_|refine zcn ?_|refine zco ?_)
 repeat (first|refine zck ?_|refine zcl ?_|refine zcm ?_|refine zcn ?_)
 first|refine zcp (by kernel_rfl) ?_|refine zcq PP_mixed (by kernel_rfl) (by kernel_rfl) ?_
 repeat' (refine zap rfl ?_; first|refine zan rfl ?_|refine zaa 0 rfl rfl rfl ?_|refine zah [] hF rfl rfl rfl zdj rfl ?_|refine zao rfl ?_)
 all_goals (refine zch ?_; repeat (first|refine zck ?_|refine zcl ?_|refine zcm ?_|refine zcn ?_))
 repeat (first|refine zck ?_|refine zcl ?_|refine zcm ?_|refine zcn ?_|refine zco ?_)
 repeat (first|refine zck ?_|refine zcl ?_|refine zcm ?_|refine zcn ?_)
 first|refine zcp (by kernel_rfl) ?_|refine zcq PP_mixed (by kernel_rfl) (by kernel_rfl) ?_
 repeat' (refine zap rfl ?_; first|refine zaj rfl ?_|refine zan rfl ?_|refine zaa 0 rfl rfl rfl ?_|refine zao rfl ?_|refine zbd rfl rfl (by omega) ?_|refine zbf rfl rfl (by omega) ?_|refine zbv rfl ?_)
 all_goals (refine zch ?_; repeat (first|refine zck ?_|refine zcl ?_|refine zcm ?_|refine zcn ?_))
 refine zcj rfl ?_
 repeat (first|refine zck ?_|refine zcl ?_|refine zcm ?_|refine zcn ?_|refine zco ?_)
 repeat (first|refine zck ?_|refine zcl ?_|refine zcm ?_|refine zcn ?_)
 first|refine zcp (by kernel_rfl) ?_|refine zcq PP_mixed (by kernel_rfl) (by kernel_rfl) ?_
 repeat' (refine zap rfl ?_; first|refine zan rfl ?_|refine zbd rfl rfl (by omega) ?_)
 all_goals (refine zch ?_; repeat (first|refine zck ?_|refine zcl ?_|refine zcm ?_|refine zcn ?_))
 refine zcj rfl ?_
 repeat (first|refine zck ?_|refine zcl ?_|refine zcm ?_|refine zcn ?_|refine zco ?_)
 repeat (first|refine zck ?_|refine zcl ?_|refine zcm ?_|refine zcn ?_)
 first|refine zcp (by kernel_rfl) ?_|refine zcq PP_mixed (by kernel_rfl) (by kernel_rfl) ?_
 repeat' (refine zap rfl ?_; first|refine zan rfl ?_)
 all_goals (refine zch ?_; repeat (first|refine zck ?_|refine zcl ?_|refine zcm ?_|refine zcn ?_))
 exact zej rfl ⟨rfl, rfl⟩
theorem macWords (sh : Shared) (m : MacS) (x y : Int) (cnt : Nat) (hc : cnt ≤ 1000) (h : RdMac w0 sh m x y cnt) :
   Vc.Fn PP w0 sh 61 [macV m] [] (fun r Γ => ∃ a c, r = .slice a 2 c ∧ Γ = [SlA 61 3 a 2 c (wdE x ++ wdE y)]) := by
 have hS := macSize w0 m
 have hW0 := macWord w0 sh m x y cnt hc h 0 (by decide)
 have hW1 := macWord w0 sh m x y cnt hc h 1 (by decide)
 refine zep en61 fn61 rfl rfl rfl ?_
 repeat (first|refine zck ?_|refine zcl ?_|refine zcm ?_|refine zcn ?_)
 first|refine zcp (by kernel_rfl) ?_|refine zcq PP_mixed (by kernel_rfl) (by kernel_rfl) ?_
 repeat' (refine zap rfl ?_; first|refine zan rfl ?_|refine zaq (cs := [_, _, _, _, _, _, _]) rfl (fun nb => ?_))
 all_goals (refine zch ?_; repeat (first|refine zck ?_|refine zcl ?_|refine zcm ?_|refine zcn ?_))
 refine zeb [0] rfl ?_
 repeat (first|refine zck ?_|refine zcl ?_|refine zcm ?_|refine zcn ?_)
 first|refine zcp (by kernel_rfl) ?_|refine zcq PP_mixed (by kernel_rfl) (by kernel_rfl) ?_
 repeat' (refine zap rfl ?_; first|refine zan rfl ?_|refine zaa 0 rfl rfl rfl ?_|refine zah [] hS rfl rfl rfl zdj rfl ?_)
 all_goals (refine zch ?_; repeat (first|refine zck ?_|refine zcl ?_|refine zcm ?_|refine zcn ?_))
 repeat (first|refine zck ?_|refine zcl ?_|refine zcm ?_|refine zcn ?_|refine zco ?_)
 repeat (first|refine zck ?_|refine zcl ?_|refine zcm ?_|refine zcn ?_)
 first|refine zcp (by kernel_rfl) ?_|refine zcq PP_mixed (by kernel_rfl) (by kernel_rfl) ?_
 repeat' (refine zap rfl ?_; first|refine zan rfl ?_)
 all_goals (refine zch ?_; repeat (first|refine zck ?_|refine zcl ?_|refine zcm ?_|refine zcn ?_))
 repeat (first|refine zck ?_|refine zcl ?_|refine zcm ?_|refine zcn ?_|refine zco ?_)
 repeat (first|refine zck ?_|refine zcl ?_|refine zcm ?_|refine zcn ?_)
 first|refine zcp (by kernel_rfl) ?_|refine zcq PP_mixed (by kernel_rfl) (by kernel_rfl) ?_
 repeat' (refine zap rfl ?_; first|refine zan rfl ?_)
 all_goals (refine zch ?_; repeat (first|refine zck ?_|refine zcl ?_|refine zcm ?_|refine zcn ?_))
 repeat (first|refine zck ?_|refine zcl ?_|refine zcm ?_|refine zcn ?_|refine zco ?_)
 refine run_nilslice 61 3 ?_
 refine zet ?_
 repeat (first|refine zck ?_|refine zcl ?_|refine zcm ?_|refine zcn ?_|refine zco ?_)
 repeat (first|refine zck ?_|refine zcl ?_|refine zcm ?_|refine zcn ?_)
 first|refine zcp (by kernel_rfl) ?_|refine zcq PP_mixed (by kernel_rfl) (by kernel_rfl) ?_
 repeat' (refine zap rfl ?_; first|refine zbg rfl rfl (by omega) ?_)
 all_goals (refine zch ?_; repeat (first|refine zck ?_|refine zcl ?_|refine zcm ?_|refine zcn ?_))
 refine zci rfl ?_
 repeat (first|refine zck ?_|refine zcl ?_|refine zcm ?_|refine zcn ?_|refine zco ?_)
 repeat (first|refine zck ?_|refine zcl ?_|refine zcm ?_|refine zcn ?_)
 first|refine zcp (by kernel_rfl) ?_|refine zcq PP_mixed (by kernel_rfl) (by kernel_rfl) ?_
 repeat' (refine zap rfl ?_; first|refine zan rfl ?_)
 all_goals (refine zch ?_; repeat (first|refine zck ?_|refine zcl ?_|refine zcm ?_|refine zcn ?_))
 repeat (first|refine zck ?_|refine zcl ?_|refine zcm ?_|refine zcn ?_|refine zco ?_)
 repeat (first|refine zck ?_|refine zcl ?_|refine zcm ?_|refine zcn ?_)
 first|refine zcp (by kernel_rfl) ?_|refine zcq PP_mixed (by kernel_rfl) (by kernel_rfl) ?_
 repeat' (refine zap rfl ?_; first|refine zar (fun t7 => ?_)|refine zan rfl ?_|refine zaa 0 rfl rfl rfl ?_|refine zah [] hW0 rfl rfl rfl (fun p hp => .tail _ hp) rfl ?_|refine zae 1 rfl rfl rfl rfl rfl rfl rfl ?_)
 all_goals (refine zch ?_; repeat (first|refine zck ?_|refine zcl ?_|refine zcm ?_|refine zcn ?_))
 repeat (first|refine zck ?_|refine zcl ?_|refine zcm ?_|refine zcn ?_|refine zco ?_)
 refine zeb [1] rfl ?_
 repeat (first|refine zck ?_|refine zcl ?_|refine zcm ?_|refine zcn ?_)
 first|refine zcp (by kernel_rfl) ?_|refine zcq PP_mixed (by kernel_rfl) (by kernel_rfl) ?_
 repeat' (refine zap rfl ?_; first|refine zdt rfl rfl rfl rfl rfl rfl (fun nb2 => ?_)|refine zan rfl ?_|refine zaa 0 rfl rfl rfl ?_|refine zdz 0 1 rfl rfl rfl rfl rfl rfl rfl rfl (by omega) (fun _ _ => rfl) (fun a1 c1 => ?_))
 all_goals (refine zch ?_; repeat (first|refine zck ?_|refine zcl ?_|refine zcm ?_|refine zcn ?_))
 repeat (first|refine zck ?_|refine zcl ?_|refine zcm ?_|refine zcn ?_|refine zco ?_)
 repeat (first|refine zck ?_|refine zcl ?_|refine zcm ?_|refine zcn ?_)
 first|refine zcp (by kernel_rfl) ?_|refine zcq PP_mixed (by kernel_rfl) (by kernel_rfl) ?_
 repeat' (refine zap rfl ?_; first|refine zan rfl ?_|refine zau rfl rfl (by omega) ?_)
 all_goals (refine zch ?_; repeat (first|refine zck ?_|refine zcl ?_|refine zcm ?_|refine zcn ?_))
 repeat (first|refine zck ?_|refine zcl ?_|refine zcm ?_|refine zcn ?_|refine zco ?_)
 repeat (first|refine zck ?_|refine zcl ?_|refine zcm ?_|refine zcn ?_)
 first|refine zcp (by kernel_rfl) ?_|refine zcq PP_mixed (by kernel_rfl) (by kernel_rfl) ?_
 repeat' (refine zap rfl ?_; first|refine zbg rfl rfl (by omega) ?_)
 all_goals (refine zch ?_; repeat (first|refine zck ?_|refine zcl ?_|refine zcm ?_|refine zcn ?_))
 refine zci rfl ?_
 repeat (first|refine zck ?_|refine zcl ?_|refine zcm ?_|refine zcn ?_|refine zco ?_)
 repeat (first|refine zck ?_|refine zcl ?_|refine zcm ?_|refine zcn ?_)
 first|refine zcp (by kernel_rfl) ?_|refine zcq PP_mixed (by kernel_rfl) (by kernel_rfl) ?_
 repeat' (refine zap rfl ?_; first|refine zan rfl ?_)
 all_goals (refine zch ?_; repeat (first|refine zck ?_|refine zcl ?_|refine zcm ?_|refine zcn ?_))
 repeat (first|refine zck ?_|refine zcl ?_|refine zcm ?_|refine zcn ?_|refine zco ?_)
 refine zec [0] rfl ?_
 repeat (first|refine zck ?_|refine zcl ?_|refine zcm ?_|refine zcn ?_)
 first|refine zcp (by kernel_rfl) ?_|refine zcq PP_mixed (by kernel_rfl) (by kernel_rfl) ?_
 repeat' (refine zap rfl ?_; first|refine zar (fun t7 => ?_)|refine zan rfl ?_|refine zaa 1 rfl rfl rfl ?_|refine zah [] hW1 rfl rfl rfl (fun p hp => .tail _ (.tail _ hp)) rfl ?_|refine zae 1 rfl rfl rfl rfl rfl rfl rfl ?_)
 all_goals (refine zch ?_; repeat (first|refine zck ?_|refine zcl ?_|refine zcm ?_|refine zcn ?_))
 repeat (first|refine zck ?_|refine zcl ?_|refine zcm ?_|refine zcn ?_|refine zco ?_)
 refine zeb [1] rfl ?_
 repeat (first|refine zck ?_|refine zcl ?_|refine zcm ?_|refine zcn ?_)
 first|refine zcp (by kernel_rfl) ?_|refine zcq PP_mixed (by kernel_rfl) (by kernel_rfl) ?_
 repeat' (refine zap rfl ?_; first|refine zdt rfl rfl rfl rfl rfl rfl (fun nb2 => ?_)|refine zan rfl ?_|refine zaa 0 rfl rfl rfl ?_|refine zdz 0 1 rfl rfl rfl rfl rfl rfl rfl rfl (by omega) (fun _ _ => rfl) (fun a2 c2 => ?_))
 all_goals (refine zch ?_; repeat (first|refine zck ?_|refine zcl ?_|refine zcm ?_|refine zcn ?_))
 repeat (first|refine zck ?_|refine zcl ?_|refine zcm ?_|refine zcn ?_|refine zco ?_)
 repeat (first|refine zck ?_|refine zcl ?_|refine zcm ?_|refine zcn ?_)
 first|refine zcp (by kernel_rfl) ?_|refine zcq PP_mixed (by kernel_rfl) (by kernel_rfl) ?_
 repeat' (refine zap rfl ?_; first|refine zan rfl ?_|refine zau rfl rfl (by omega) ?_)
 all_goals (refine zch ?_; repeat (first|refine zck ?_|refine zcl ?_|refine zcm ?_|refine zcn ?_))
 repeat (first|refine zck ?_|refine zcl ?_|refine zcm ?_|refine zcn ?_|refine zco ?_)
 repeat (first|refine zck ?_|refine zcl ?_|refine zcm ?_|refine zcn ?_)
 first|refine zcp (by kernel_rfl) ?_|refine zcq PP_mixed (by kernel_rfl) (by kernel_rfl) ?_
 repeat' (refine zap rfl ?_; first|refine zbh rfl rfl (by omega) ?_)
 all_goals (refine zch ?_; repeat (first|refine zck ?_|refine zcl ?_|refine zcm ?_|refine zcn ?_))
 refine zcj rfl ?_
 refine zcs rfl ?_
 repeat (first|refine zck ?_|refine zcl ?_|refine zcm ?_|refine zcn ?_|refine zco ?_)
 repeat (first|refine zck ?_|refine zcl ?_|refine zcm ?_|refine zcn ?_)
 first|refine zcp (by kernel_rfl) ?_|refine zcq PP_mixed (by kernel_rfl) (by kernel_rfl) ?_
 repeat' (refine zap rfl ?_; first|refine zan rfl ?_)
 all_goals (refine zch ?_; repeat (first|refine zck ?_|refine zcl ?_|refine zcm ?_|refine zcn ?_))
 exact zeg (zek (zel [0] rfl (zem rfl rfl ⟨rfl, a2, c2, rfl, rfl⟩)))
end Go.Proofs.YtikackodhiollaaGreatDoor
namespace Sim.Tx
open Go Go.Vc Sim
theorem join_two (x y : Int) : (⟨(Lib.join ([numB x, numB y].map (·.data.toList)) (bs [32]).data.toList).toArray⟩ : ByteArray) = wtext x y := by
 unfold wtext
 apply ByteArray.ext
 apply Array.ext'
 simp [Lib.join, bs, numB]
theorem numB_size {v : Int} (h : I64 v) : (numB v).size ≤ 21 := itoa_len h
theorem gotB_size {s : ByteArray} {x : Int × Bool} (h : I64 x.1) : (gotB s x).size ≤ s.size + 23 := by
 have h1 := numB_size h
 have h2 : (bs [32]).size = 1 := rfl
 have h3 : (bs [33]).size = 1 := rfl
 unfold gotB
 split
 · simp only [ByteArray.size_append]; omega
 · simp only [ByteArray.size_append]; omega
theorem gots_size : ∀ (g : Gots) (s : ByteArray), (∀ p ∈ g, I64 p.1) → (g.foldl gotB s).size ≤ s.size + 23 * g.length
 | [], _, _ => by simp
 | p :: g, s, h => by
   rw [List.foldl_cons]
   have h1 := gots_size g (gotB s p) (fun q hq => h q (.tail _ hq))
   have h2 := gotB_size (s := s) (h p (.head _))
   simp only [List.length_cons]
   omega
end Sim.Tx
namespace Go.Proofs.YtikackodhiollaaGreatDoor
variable (w0 : World)
open Go.Vc Sim Sim.Tx
set_option maxHeartbeats 8000000
theorem exOutcome (ht : TabOk w0) (sh : Shared) (W : WoS) (a : Tx.Wd) (cnt : Nat) (hc : cnt ≤ 1000) (h : RdWo w0 sh W a cnt) : FnE PP w0 sh 31 [woV W] [] (.string a.out) [] := by
 obtain ⟨rows, hrows, hcl, hall⟩ := h.rows
 have hlen : rows.length = W.n := by rw [h.n, ← hrows, List.length_map]
 have hfew : rows.length ≤ 3 := by rw [hlen, h.n]; exact h.few
 have hsl : RdSl w0 sh trE 11 (.slice W.ta rows.length W.tc) rows := by
   have h1 := h.tcap
   rw [← hlen] at hcl h1
   exact RdCl.sl (fun x _ => trE_len x) hcl h1
 have hout : a.out = (rows.map fun x => (x.o, x.g)).foldl taskB (wtext a.w0 a.w1) := by unfold Tx.Wd.out; rw [hrows]
 have hmac := h.mac
 have hi0 := h.i0
 have hi1 := h.i1
 rw [hout]
 obtain ⟨m, ta, tc, sa, sc, n⟩ := W
 dsimp only at hlen hsl hmac
 subst hlen
 have hW := macWords w0 sh m a.w0 a.w1 cnt hc hmac
 have hT0 := wText w0 ht a.w0 hi0
 have hT1 := wText w0 ht a.w1 hi1
 generalize a.w0 = x at *
 generalize a.w1 = y at *
 dsimp only [woV]
 refine zep en31 fn31 rfl rfl rfl ?_
 repeat (first|refine zck ?_|refine zcl ?_|refine zcm ?_|refine zcn ?_)
 first|refine zcp (by kernel_rfl) ?_|refine zcq PP_mixed (by kernel_rfl) (by kernel_rfl) ?_
 repeat' (refine zap rfl ?_; first|refine zaq (cs := [_, _, _, _, _, _, _, _, _]) rfl (fun t1 => ?_)|refine zan rfl ?_)
 all_goals (refine zch ?_; repeat (first|refine zck ?_|refine zcl ?_|refine zcm ?_|refine zcn ?_))
 refine zeb [0] rfl ?_
 repeat (first|refine zck ?_|refine zcl ?_|refine zcm ?_|refine zcn ?_)
 first|refine zcp (by kernel_rfl) ?_|refine zcq PP_mixed (by kernel_rfl) (by kernel_rfl) ?_
 repeat' (refine zap rfl ?_; first|refine zan rfl ?_)
 all_goals (refine zch ?_; repeat (first|refine zck ?_|refine zcl ?_|refine zcm ?_|refine zcn ?_))
 repeat (first|refine zck ?_|refine zcl ?_|refine zcm ?_|refine zcn ?_|refine zco ?_)
 repeat (first|refine zck ?_|refine zcl ?_|refine zcm ?_|refine zcn ?_)
 first|refine zcp (by kernel_rfl) ?_|refine zcq PP_mixed (by kernel_rfl) (by kernel_rfl) ?_
 repeat' (refine zap rfl ?_; first|refine zan rfl ?_|refine zaa 0 rfl rfl rfl ?_|refine zce rfl ?_|(refine zai [] hW rfl rfl rfl (fun p hp => .tail _ hp) ?_; rintro v Γ ⟨wa, wc, rfl, rfl⟩)|refine zao rfl ?_)
 all_goals (refine zch ?_; repeat (first|refine zck ?_|refine zcl ?_|refine zcm ?_|refine zcn ?_))
 repeat (first|refine zck ?_|refine zcl ?_|refine zcm ?_|refine zcn ?_|refine zco ?_)
 refine run_shareP [0] (fun s => RdCl w0 s 3 wa 2 (wdE x ++ wdE y) ∧ 2 ≤ wc) RdO.ofCl rfl ?_
 intro bl hs hwc
 have hwr : RdSl w0 _ wdE 3 (.slice wa 2 wc) [x, y] := RdCl.sl (l := [x, y]) (fun _ _ => rfl) hwc.1 hwc.2
 obtain ⟨bb, off, cc, T, fr, ea, e2, e3, _⟩ := hwr.cells (i := 0) rfl
 obtain ⟨bb', off', cc', T', fr', ea', f2, f3, _⟩ := hwr.cells (i := 1) rfl
 subst ea
 cases ea'
 refine run_nilslice 9 1 ?_
 refine zet ?_
 repeat (first|refine zck ?_|refine zcl ?_|refine zcm ?_|refine zcn ?_|refine zco ?_)
 repeat (first|refine zck ?_|refine zcl ?_|refine zcm ?_|refine zcn ?_)
 first|refine zcp (by kernel_rfl) ?_|refine zcq PP_mixed (by kernel_rfl) (by kernel_rfl) ?_
 repeat' (refine zap rfl ?_; first|refine zbg rfl rfl (by omega) ?_)
 all_goals (refine zch ?_; repeat (first|refine zck ?_|refine zcl ?_|refine zcm ?_|refine zcn ?_))
 refine zci rfl ?_
 repeat (first|refine zck ?_|refine zcl ?_|refine zcm ?_|refine zcn ?_|refine zco ?_)
 repeat (first|refine zck ?_|refine zcl ?_|refine zcm ?_|refine zcn ?_)
 first|refine zcp (by kernel_rfl) ?_|refine zcq PP_mixed (by kernel_rfl) (by kernel_rfl) ?_
 repeat' (refine zap rfl ?_; first|refine zas rfl rfl (by omega) ?_|refine zar (fun t5 => ?_)|refine zad rfl e2 (e3 _ (by omega)) ?_|refine zae 1 rfl rfl rfl rfl rfl rfl rfl ?_)
 all_goals (refine zch ?_; repeat (first|refine zck ?_|refine zcl ?_|refine zcm ?_|refine zcn ?_))
 repeat (first|refine zck ?_|refine zcl ?_|refine zcm ?_|refine zcn ?_|refine zco ?_)
 refine zeb [1] rfl ?_
 repeat (first|refine zck ?_|refine zcl ?_|refine zcm ?_|refine zcn ?_)
 first|refine zcp (by kernel_rfl) ?_|refine zcq PP_mixed (by kernel_rfl) (by kernel_rfl) ?_
 repeat' (refine zap rfl ?_; first|refine zdt rfl rfl rfl rfl rfl rfl (fun nb2 => ?_)|refine zan rfl ?_|refine zaa 0 rfl rfl rfl ?_|refine zah [] hT0 rfl rfl rfl zdj rfl ?_|refine zdz 0 1 rfl rfl rfl rfl rfl rfl rfl rfl (by omega) (fun _ _ => rfl) (fun a1 c1 => ?_))
 all_goals (refine zch ?_; repeat (first|refine zck ?_|refine zcl ?_|refine zcm ?_|refine zcn ?_))
 refine zec [0] rfl ?_
 repeat (first|refine zck ?_|refine zcl ?_|refine zcm ?_|refine zcn ?_|refine zco ?_)
 repeat (first|refine zck ?_|refine zcl ?_|refine zcm ?_|refine zcn ?_)
 first|refine zcp (by kernel_rfl) ?_|refine zcq PP_mixed (by kernel_rfl) (by kernel_rfl) ?_
 repeat' (refine zap rfl ?_; first|refine zan rfl ?_|refine zau rfl rfl (by omega) ?_)
 all_goals (refine zch ?_; repeat (first|refine zck ?_|refine zcl ?_|refine zcm ?_|refine zcn ?_))
 repeat (first|refine zck ?_|refine zcl ?_|refine zcm ?_|refine zcn ?_|refine zco ?_)
 repeat (first|refine zck ?_|refine zcl ?_|refine zcm ?_|refine zcn ?_)
 first|refine zcp (by kernel_rfl) ?_|refine zcq PP_mixed (by kernel_rfl) (by kernel_rfl) ?_
 repeat' (refine zap rfl ?_; first|refine zbg rfl rfl (by omega) ?_)
 all_goals (refine zch ?_; repeat (first|refine zck ?_|refine zcl ?_|refine zcm ?_|refine zcn ?_))
 refine zci rfl ?_
 repeat (first|refine zck ?_|refine zcl ?_|refine zcm ?_|refine zcn ?_|refine zco ?_)
 repeat (first|refine zck ?_|refine zcl ?_|refine zcm ?_|refine zcn ?_)
 first|refine zcp (by kernel_rfl) ?_|refine zcq PP_mixed (by kernel_rfl) (by kernel_rfl) ?_
 repeat' (refine zap rfl ?_; first|refine zas rfl rfl (by omega) ?_|refine zar (fun t5 => ?_)|refine zad rfl (fun hF Γ w h1 h2 => f2 hF Γ w (fun p hp => h1 p (.tail _ hp)) h2) (f3 _ (by omega)) ?_|refine zae 1 rfl rfl rfl rfl rfl rfl rfl ?_)
 all_goals (refine zch ?_; repeat (first|refine zck ?_|refine zcl ?_|refine zcm ?_|refine zcn ?_))
 repeat (first|refine zck ?_|refine zcl ?_|refine zcm ?_|refine zcn ?_|refine zco ?_)
 refine zeb [1] rfl ?_
 repeat (first|refine zck ?_|refine zcl ?_|refine zcm ?_|refine zcn ?_)
 first|refine zcp (by kernel_rfl) ?_|refine zcq PP_mixed (by kernel_rfl) (by kernel_rfl) ?_
 repeat' (refine zap rfl ?_; first|refine zdt rfl rfl rfl rfl rfl rfl (fun nb2 => ?_)|refine zan rfl ?_|refine zaa 0 rfl rfl rfl ?_|refine zah [] hT1 rfl rfl rfl zdj rfl ?_|refine zdz 0 1 rfl rfl rfl rfl rfl rfl rfl rfl (by omega) (fun _ _ => rfl) (fun a2 c2 => ?_))
 all_goals (refine zch ?_; repeat (first|refine zck ?_|refine zcl ?_|refine zcm ?_|refine zcn ?_))
 refine zec [0] rfl ?_
 repeat (first|refine zck ?_|refine zcl ?_|refine zcm ?_|refine zcn ?_|refine zco ?_)
 repeat (first|refine zck ?_|refine zcl ?_|refine zcm ?_|refine zcn ?_)
 first|refine zcp (by kernel_rfl) ?_|refine zcq PP_mixed (by kernel_rfl) (by kernel_rfl) ?_
 repeat' (refine zap rfl ?_; first|refine zan rfl ?_|refine zau rfl rfl (by omega) ?_)
 all_goals (refine zch ?_; repeat (first|refine zck ?_|refine zcl ?_|refine zcm ?_|refine zcn ?_))
 repeat (first|refine zck ?_|refine zcl ?_|refine zcm ?_|refine zcn ?_|refine zco ?_)
 repeat (first|refine zck ?_|refine zcl ?_|refine zcm ?_|refine zcn ?_)
 first|refine zcp (by kernel_rfl) ?_|refine zcq PP_mixed (by kernel_rfl) (by kernel_rfl) ?_
 repeat' (refine zap rfl ?_; first|refine zbh rfl rfl (by omega) ?_)
 all_goals (refine zch ?_; repeat (first|refine zck ?_|refine zcl ?_|refine zcm ?_|refine zcn ?_))
 refine zcj rfl ?_
 refine zcs rfl ?_
 repeat (first|refine zck ?_|refine zcl ?_|refine zcm ?_|refine zcn ?_|refine zco ?_)
 refine run_shareP [0] (fun s => RdCl w0 s 1 a2 2 [.string (numB x), .string (numB y)] ∧ 2 ≤ c2) RdO.ofCl rfl ?_
 intro bl2 hs2 hsc
 have hsr : RdSl w0 _ encY 1 (.slice a2 2 c2) [numB x, numB y] := RdCl.sl (l := [numB x, numB y]) (fun _ _ => rfl) hsc.1 hsc.2
 have hn0 := numB_size hi0
 have hn1 := numB_size hi1
 have hJ := join_spec0 w0 _ (.slice a2 2 c2) [numB x, numB y] (bs [32]) hsr (by simp) (by show 2 ≤ 1000000; omega) (by
   have e := congrArg ByteArray.size (join_two x y)
   have e2 : (⟨(Lib.join ([numB x, numB y].map (·.data.toList)) (bs [32]).data.toList).toArray⟩ : ByteArray).size = (Lib.join ([numB x, numB y].map (·.data.toList)) (bs [32]).data.toList).length := rfl
   rw [← e2, e]
   unfold wtext
   simp only [ByteArray.size_append]
   have : (bs [32]).size = 1 := rfl
   omega)
 rw [join_two] at hJ
 repeat (first|refine zck ?_|refine zcl ?_|refine zcm ?_|refine zcn ?_)
 first|refine zcp (by kernel_rfl) ?_|refine zcq PP_mixed (by kernel_rfl) (by kernel_rfl) ?_
 repeat' (refine zap rfl ?_; first|refine zan rfl ?_|refine zah [] hJ rfl rfl rfl (fun _ hp => hp) rfl ?_)
 all_goals (refine zch ?_; repeat (first|refine zck ?_|refine zcl ?_|refine zcm ?_|refine zcn ?_))
 repeat (first|refine zck ?_|refine zcl ?_|refine zcm ?_|refine zcn ?_|refine zco ?_)
 repeat (first|refine zck ?_|refine zcl ?_|refine zcm ?_|refine zcn ?_)
 first|refine zcp (by kernel_rfl) ?_|refine zcq PP_mixed (by kernel_rfl) (by kernel_rfl) ?_
 repeat' (refine zap rfl ?_; first|refine zan rfl ?_|refine zaa 2 rfl rfl rfl ?_|refine zce rfl ?_|refine zao rfl ?_)
 all_goals (refine zch ?_; repeat (first|refine zck ?_|refine zcl ?_|refine zcm ?_|refine zcn ?_))
 repeat (first|refine zck ?_|refine zcl ?_|refine zcm ?_|refine zcn ?_|refine zco ?_)
 have up : ∀ p ∈ sh, p ∈ _ := fun p hp => hs2 p (List.Mem.tail _ (List.Mem.tail _ (hs p (List.Mem.tail _ hp))))
 obtain ⟨base, hbase⟩ : ∃ base, wtext x y = base := ⟨_, rfl⟩
 have hbs : base.size ≤ 43 := by
   rw [← hbase]
   unfold wtext
   simp only [ByteArray.size_append]
   have : (bs [32]).size = 1 := rfl
   omega
 rw [hbase]
 let out : Nat → ByteArray := fun j => ((rows.take j).map fun x => (x.o, x.g)).foldl taskB base
 refine run_loop (S := Nat) (fun j => [(6, .string (out j)), (28, .slice ta rows.length tc), (29, .int .i64 rows.length), (30, .int .i64 j)])
   (fun j Γ => Γ = [] ∧ j ≤ rows.length ∧ (out j).size ≤ 43 + j * 30000) (fun j => rows.length - j) 0 ⟨by show _ = Value.string base; rw [← hbase]; rfl, rfl, rfl, rfl, trivial⟩ ⟨rfl, Nat.zero_le _, by show base.size ≤ _; omega⟩ ?_
 rintro j Γ junk ⟨rfl, hj, hsz⟩
 by_cases he : j = rows.length
 · subst he
   repeat (first|refine zck ?_|refine zcl ?_|refine zcm ?_|refine zcn ?_)
   first|refine zcp (by kernel_rfl) ?_|refine zcq PP_mixed (by kernel_rfl) (by kernel_rfl) ?_
   repeat' (refine zap rfl ?_; first|refine zbh rfl rfl (by omega) ?_)
   all_goals (refine zch ?_; repeat (first|refine zck ?_|refine zcl ?_|refine zcm ?_|refine zcn ?_))
   refine zcj rfl ?_
   refine zer rfl rfl ?_
   repeat (first|refine zck ?_|refine zcl ?_|refine zcm ?_|refine zcn ?_|refine zco ?_)
   repeat (first|refine zck ?_|refine zcl ?_|refine zcm ?_|refine zcn ?_)
   first|refine zcp (by kernel_rfl) ?_|refine zcq PP_mixed (by kernel_rfl) (by kernel_rfl) ?_
   repeat' (refine zap rfl ?_; first|refine zan rfl ?_)
   all_goals (refine zch ?_; repeat (first|refine zck ?_|refine zcl ?_|refine zcm ?_|refine zcn ?_))
   refine zej rfl ⟨?_, rfl⟩
   show Value.string (((rows.take rows.length).map fun x => (x.o, x.g)).foldl taskB base) = _
   rw [List.take_length]
 · obtain ⟨z, hz⟩ : ∃ z, rows[j]? = some z := ⟨_, List.getElem?_eq_getElem (by omega)⟩
   have htr := hall z (List.mem_of_getElem? hz)
   obtain ⟨kb, koff, kcc, kT, kfr, kea, k2, k3, _⟩ := hsl.cells hz
   subst kea
   have hgl : z.g.length ≤ 1000 := by have := htr.few; omega
   have hGt := taskGots w0 sh z htr.cl htr.cap hgl
   have hone := trE_one z
   obtain ⟨tc1, tc2, tp, tad, tv, tm, hE⟩ := trE_form z
   rw [hE] at hone k3 hGt
   have hout1 : out (j + 1) = z.g.foldl gotB (out j ++ bs [59]) := by
     show ((rows.take (j + 1)).map fun x => (x.o, x.g)).foldl taskB base = _
     rw [take_snoc hz, List.map_append, List.foldl_append]
     rfl
   have h59 : (bs [59]).size = 1 := rfl
   generalize hoj : out j = oj at hsz hout1
   repeat (first|refine zck ?_|refine zcl ?_|refine zcm ?_|refine zcn ?_)
   first|refine zcp (by kernel_rfl) ?_|refine zcq PP_mixed (by kernel_rfl) (by kernel_rfl) ?_
   repeat' (refine zap rfl ?_; first|refine zbg rfl rfl (by omega) ?_)
   all_goals (refine zch ?_; repeat (first|refine zck ?_|refine zcl ?_|refine zcm ?_|refine zcn ?_))
   refine zci rfl ?_
   repeat (first|refine zck ?_|refine zcl ?_|refine zcm ?_|refine zcn ?_|refine zco ?_)
   repeat (first|refine zck ?_|refine zcl ?_|refine zcm ?_|refine zcn ?_)
   first|refine zcp (by kernel_rfl) ?_|refine zcq PP_mixed (by kernel_rfl) (by kernel_rfl) ?_
   repeat' (refine zap rfl ?_; first|refine zas rfl rfl (by omega) ?_|refine zar (fun t8 => ?_)|refine zae 0 rfl rfl rfl rfl hone rfl rfl ?_|refine zad rfl (fun hF Γ w h1 h2 => k2 hF Γ w (fun p hp => h1 p (up p hp)) h2) (k3 _ (by omega)) ?_)
   all_goals (refine zch ?_; repeat (first|refine zck ?_|refine zcl ?_|refine zcm ?_|refine zcn ?_))
   repeat (first|refine zck ?_|refine zcl ?_|refine zcm ?_|refine zcn ?_|refine zco ?_)
   refine zeb [0] rfl ?_
   repeat (first|refine zck ?_|refine zcl ?_|refine zcm ?_|refine zcn ?_)
   first|refine zcp (by kernel_rfl) ?_|refine zcq PP_mixed (by kernel_rfl) (by kernel_rfl) ?_
   repeat' (refine zap rfl ?_; first|refine reg_addS rfl rfl (by show oj.size + 1 ≤ _; omega) ?_|refine zan rfl ?_)
   all_goals (refine zch ?_; repeat (first|refine zck ?_|refine zcl ?_|refine zcm ?_|refine zcn ?_))
   repeat (first|refine zck ?_|refine zcl ?_|refine zcm ?_|refine zcn ?_|refine zco ?_)
   repeat (first|refine zck ?_|refine zcl ?_|refine zcm ?_|refine zcn ?_)
   first|refine zcp (by kernel_rfl) ?_|refine zcq PP_mixed (by kernel_rfl) (by kernel_rfl) ?_
   repeat' (refine zap rfl ?_; first|refine zan rfl ?_|refine zaa 0 rfl rfl rfl ?_|refine zce rfl ?_|(refine zai [] hGt rfl rfl rfl (fun p hp => .tail _ (up p hp)) ?_; rintro v Γ ⟨ga, gc, rfl, rfl⟩))
   all_goals (refine zch ?_; repeat (first|refine zck ?_|refine zcl ?_|refine zcm ?_|refine zcn ?_))
   repeat (first|refine zck ?_|refine zcl ?_|refine zcm ?_|refine zcn ?_|refine zco ?_)
   refine run_shareP [0] (fun s => RdCl w0 s 4 ga z.g.length (z.g.flatMap gotE) ∧ z.g.length ≤ gc) RdO.ofCl rfl ?_
   intro bl3 hs3 hgc
   have hgrow : RdSl w0 _ gotE 4 (.slice ga z.g.length gc) z.g := RdCl.sl (fun _ _ => rfl) hgc.1 hgc.2
   refine run_loop (S := Nat) (fun i => [(6, .string ((z.g.take i).foldl gotB (oj ++ bs [59]))), (28, .slice (some ⟨kb, koff, none⟩) rows.length tc), (29, .int .i64 rows.length), (30, .int .i64 j), (37, .slice ga z.g.length gc), (38, .int .i64 z.g.length), (39, .int .i64 i)])
     (fun i Γ => Γ = [] ∧ i ≤ z.g.length) (fun i => z.g.length - i) 0 ⟨rfl, rfl, rfl, rfl, rfl, rfl, rfl, trivial⟩ ⟨rfl, Nat.zero_le _⟩ ?_
   rintro i Γ junk2 ⟨rfl, hi⟩
   have hps := gots_size (z.g.take i) (oj ++ bs [59]) (fun p hp => htr.vs p (List.mem_of_mem_take hp))
   rw [List.length_take, Nat.min_eq_left hi, ByteArray.size_append, h59] at hps
   by_cases he2 : i = z.g.length
   · subst he2
     repeat (first|refine zck ?_|refine zcl ?_|refine zcm ?_|refine zcn ?_)
     first|refine zcp (by kernel_rfl) ?_|refine zcq PP_mixed (by kernel_rfl) (by kernel_rfl) ?_
     repeat' (refine zap rfl ?_; first|refine zbh rfl rfl (by omega) ?_)
     all_goals (refine zch ?_; repeat (first|refine zck ?_|refine zcl ?_|refine zcm ?_|refine zcn ?_))
     refine zcj rfl ?_
     refine zer rfl rfl ?_
     repeat (first|refine zck ?_|refine zcl ?_|refine zcm ?_|refine zcn ?_|refine zco ?_)
     repeat (first|refine zck ?_|refine zcl ?_|refine zcm ?_|refine zcn ?_)
     first|refine zcp (by kernel_rfl) ?_|refine zcq PP_mixed (by kernel_rfl) (by kernel_rfl) ?_
     repeat' (refine zap rfl ?_; first|refine zan rfl ?_|refine zau rfl rfl (by omega) ?_)
     all_goals (refine zch ?_; repeat (first|refine zck ?_|refine zcl ?_|refine zcm ?_|refine zcn ?_))
     rw [List.take_length] at hps
     refine zeq ⟨rfl, j + 1, ⟨?_, rfl, rfl, zes (by omega), trivial⟩, ⟨rfl, by omega, by rw [hout1]; omega⟩, by omega⟩
     show _ = Value.string (out (j + 1))
     rw [hout1]
     show Value.string ((z.g.take z.g.length).foldl gotB (oj ++ bs [59])) = _
     rw [List.take_length]
   · obtain ⟨p, hp⟩ : ∃ p, z.g[i]? = some p := ⟨_, List.getElem?_eq_getElem (by omega)⟩
     obtain ⟨gb, goff, gcc, gT, gfr, gea, g2, g3, _⟩ := hgrow.cells hp
     subst gea
     have hpi := htr.vs p (List.mem_of_getElem? hp)
     have hTx := wText w0 ht p.1 hpi
     have hnp := numB_size hpi
     have h32 : (bs [32]).size = 1 := rfl
     have e33 : (bs [33]).size = 1 := rfl
     have hnext : (z.g.take (i + 1)).foldl gotB (oj ++ bs [59]) = gotB ((z.g.take i).foldl gotB (oj ++ bs [59])) p := by rw [take_snoc hp, List.foldl_append]; rfl
     generalize hcur : (z.g.take i).foldl gotB (oj ++ bs [59]) = cur at hps hnext
     obtain ⟨pv, pk⟩ := p
     dsimp only at hTx hnp
     repeat (first|refine zck ?_|refine zcl ?_|refine zcm ?_|refine zcn ?_)
     first|refine zcp (by kernel_rfl) ?_|refine zcq PP_mixed (by kernel_rfl) (by kernel_rfl) ?_
     repeat' (refine zap rfl ?_; first|refine zbg rfl rfl (by omega) ?_)
     all_goals (refine zch ?_; repeat (first|refine zck ?_|refine zcl ?_|refine zcm ?_|refine zcn ?_))
     refine zci rfl ?_
     repeat (first|refine zck ?_|refine zcl ?_|refine zcm ?_|refine zcn ?_|refine zco ?_)
     repeat (first|refine zck ?_|refine zcl ?_|refine zcm ?_|refine zcn ?_)
     first|refine zcp (by kernel_rfl) ?_|refine zcq PP_mixed (by kernel_rfl) (by kernel_rfl) ?_
     repeat' (refine zap rfl ?_; first|refine zas rfl rfl (by omega) ?_|refine zar (fun t10 => ?_)|refine zad rfl g2 (g3 _ (by omega)) ?_|refine zae 0 rfl rfl rfl rfl rfl rfl rfl ?_)
     all_goals (refine zch ?_; repeat (first|refine zck ?_|refine zcl ?_|refine zcm ?_|refine zcn ?_))
     repeat (first|refine zck ?_|refine zcl ?_|refine zcm ?_|refine zcn ?_|refine zco ?_)
     refine zeb [0] rfl ?_
     repeat (first|refine zck ?_|refine zcl ?_|refine zcm ?_|refine zcn ?_)
     first|refine zcp (by kernel_rfl) ?_|refine zcq PP_mixed (by kernel_rfl) (by kernel_rfl) ?_
     repeat' (refine zap rfl ?_; first|refine reg_addS (a := bs [32]) (b := numB pv) rfl rfl (by omega) ?_|refine reg_addS (a := cur) (b := bs [32] ++ numB pv) rfl rfl (by rw [ByteArray.size_append]; omega) ?_|refine zan rfl ?_|refine zaa 0 rfl rfl rfl ?_|refine zah [] hTx rfl rfl rfl zdj rfl ?_|refine zao rfl ?_)
     all_goals (refine zch ?_; repeat (first|refine zck ?_|refine zcl ?_|refine zcm ?_|refine zcn ?_))
     repeat (first|refine zck ?_|refine zcl ?_|refine zcm ?_|refine zcn ?_|refine zco ?_)
     repeat (first|refine zck ?_|refine zcl ?_|refine zcm ?_|refine zcn ?_)
     first|refine zcp (by kernel_rfl) ?_|refine zcq PP_mixed (by kernel_rfl) (by kernel_rfl) ?_
     repeat' (refine zap rfl ?_; first|refine zbx rfl ?_|refine zaa 0 rfl rfl rfl ?_|refine zao rfl ?_)
     all_goals (refine zch ?_; repeat (first|refine zck ?_|refine zcl ?_|refine zcm ?_|refine zcn ?_))
     cases pk with
     | true =>
       refine zcj rfl ?_
       repeat (first|refine zck ?_|refine zcl ?_|refine zcm ?_|refine zcn ?_|refine zco ?_)
       repeat (first|refine zck ?_|refine zcl ?_|refine zcm ?_|refine zcn ?_)
       first|refine zcp (by kernel_rfl) ?_|refine zcq PP_mixed (by kernel_rfl) (by kernel_rfl) ?_
       repeat' (refine zap rfl ?_; first|refine zan rfl ?_|refine zau rfl rfl (by omega) ?_)
       all_goals (refine zch ?_; repeat (first|refine zck ?_|refine zcl ?_|refine zcm ?_|refine zcn ?_))
       refine zeq ⟨rfl, i + 1, ⟨?_, rfl, rfl, rfl, rfl, rfl, zes (by omega), trivial⟩, ⟨rfl, by omega⟩, by omega⟩
       show _ = Value.string ((z.g.take (i + 1)).foldl gotB (oj ++ bs [59]))
       rw [hnext]
       rfl
     | false =>
       refine zci rfl ?_
       repeat (first|refine zck ?_|refine zcl ?_|refine zcm ?_|refine zcn ?_|refine zco ?_)
       repeat (first|refine zck ?_|refine zcl ?_|refine zcm ?_|refine zcn ?_)
       first|refine zcp (by kernel_rfl) ?_|refine zcq PP_mixed (by kernel_rfl) (by kernel_rfl) ?_
       repeat' (refine zap rfl ?_; first|refine reg_addS (a := cur ++ (bs [32] ++ numB pv)) (b := bs [33]) rfl rfl (by simp only [ByteArray.size_append]; omega) ?_|refine zan rfl ?_)
       all_goals (refine zch ?_; repeat (first|refine zck ?_|refine zcl ?_|refine zcm ?_|refine zcn ?_))
       repeat (first|refine zck ?_|refine zcl ?_|refine zcm ?_|refine zcn ?_|refine zco ?_)
       repeat (first|refine zck ?_|refine zcl ?_|refine zcm ?_|refine zcn ?_)
       first|refine zcp (by kernel_rfl) ?_|refine zcq PP_mixed (by kernel_rfl) (by kernel_rfl) ?_
       repeat' (refine zap rfl ?_; first|refine zan rfl ?_|refine zau rfl rfl (by omega) ?_)
       all_goals (refine zch ?_; repeat (first|refine zck ?_|refine zcl ?_|refine zcm ?_|refine zcn ?_))
       refine zeq ⟨rfl, i + 1, ⟨?_, rfl, rfl, rfl, rfl, rfl, zes (by omega), trivial⟩, ⟨rfl, by omega⟩, by omega⟩
       show _ = Value.string ((z.g.take (i + 1)).foldl gotB (oj ++ bs [59]))
       rw [hnext]
       rfl
end Go.Proofs.YtikackodhiollaaGreatDoor
