import Derived.Test.YtfnjeldpfilplaaGreatDoorPart3
import Derived.Test.YtfnjeldpfilplaaGreatDoorKit
/- Lemmas and walks for the claims of this seat (own work): Sx1 Sx2 Sx3 Sx4 Sx5 Ge1 Ct0. -/
namespace Go.Vc
open Sim
def emptyN (k num : Int) (a m p q : Nat) : Bool := decide (k = 0) && decide (num = 0) && decide (a = 0) && decide (m = 0) && decide (p = 0) && decide (q = 0)
theorem emptyE_N (k num : Int) (name meth : ByteArray) (args or : List PE) : emptyE (.mk k num name meth args or) = emptyN k num name.size meth.size args.length or.length := rfl
def formN (r : RuleT) (num : Int) (a m : Nat) (b : Bool) (p q : Nat) : Bool :=
  if (!r.num && decide (num ≠ 0)) || (!r.name && !decide (a = 0)) || (!r.meth && !r.sign && !decide (m = 0)) then false
  else if r.sign && !b then false
  else if decide ((p : Int) < r.least) || decide (r.most < (p : Int)) then false
  else decide (q = 0) || (r.or && decide (q = 1))
theorem formE_N (r : RuleT) (k num : Int) (name meth : ByteArray) (args or : List PE) : formE r (.mk k num name meth args or) = formN r num name.size meth.size (inS sgL meth) args.length or.length := rfl
def rL (r : RuleT) : List Value := [.bool (decide (r.num = true)), .bool (decide (r.name = true)), .bool (decide (r.meth = true)), .bool (decide (r.sign = true)), .bool (decide (r.or = true)), .int .i64 r.top, .int .i64 r.least, .int .i64 r.most]
def rV (r : RuleT) : Value := .agg (List.toArray (rL r))
def rulesL : List Value := rL (ruleT 0) ++ (rL (ruleT 1) ++ (rL (ruleT 2) ++ (rL (ruleT 3) ++ (rL (ruleT 4) ++ (rL (ruleT 5) ++ (rL (ruleT 6) ++ rL (ruleT 7)))))))
theorem FnE.dec {P : Program} {w0 : World} {sh : Shared} {f : FuncId} {args : List Value} {Γ Γ' : List Asn} {b : Bool} (h : FnE P w0 sh f args Γ (.bool b) Γ') : FnE P w0 sh f args Γ (.bool (decide (b = true))) Γ' := by
  rw [Bool.decide_eq_true]; exact h
theorem kind8 {k : Int} (h : 0 ≤ k ∧ k ≤ 7) : k = 0 ∨ k = 1 ∨ k = 2 ∨ k = 3 ∨ k = 4 ∨ k = 5 ∨ k = 6 ∨ k = 7 := by omega
theorem rulesL_rd {k : Int} (h : 0 ≤ k ∧ k ≤ 7) : rd true 8 rulesL (k.toNat * 8) = some (rV (ruleT k)) := by
  rcases kind8 h with rfl | rfl | rfl | rfl | rfl | rfl | rfl | rfl <;> rfl
end Go.Vc
namespace Go.Proofs.YtfnjeldpfilplaaGreatDoor
open Go.Vc Sim
theorem rules_spec (w0 : World) : FnE PP w0 [] 96 [] [] (.agg (List.toArray rulesL)) [] := by
  refine fn_of_run en96 fn96 rfl rfl rfl ?_
  repeat' (first | refine zck ?_ | refine zcp (by kernel_rfl) ?_ | (refine zap rfl ?_; first | refine zae 0 rfl rfl rfl rfl rfl rfl rfl ?_ | refine zar (fun nb => ?_) | refine zcb rfl ?_ | refine reg_buildA rfl ?_) | refine zch ?_)
  exact run_ret (leaves_nil (ends_take [] rfl (ends_one rfl (resOk_pt 0 rfl rfl rfl) ⟨rfl, rfl, rfl⟩)))
theorem binaries_spec (w0 : World) : Vc.Fn PP w0 [] 114 [] [] (fun v Γ => Γ = [Rds fun bl => RdSl w0 bl encY 1 v sgL]) := by
  refine fn_of_run en114 fn114 rfl rfl rfl ?_
  repeat' (first | refine zck ?_ | refine zcp (by kernel_rfl) ?_ | (refine zap rfl ?_; first | refine reg_buildSlice rfl rfl rfl rfl rfl rfl (fun nb => ?_) | refine zan rfl ?_) | refine zch ?_)
  refine run_exch 0 (Rds fun bl => RdSl w0 bl encY 1 (.slice (some ⟨nb, 0, none⟩) 13 13) sgL) rfl (fun g hg => Rds.mono (fun _ hb => RdSl.flat (encE := encY) (q := 1) (w0 := w0) (b := nb) (l := sgL) (fun _ _ => rfl) hb) g (Rds.of_pt g hg)) rfl ?_
  exact ret_tmp1 rfl rfl
theorem hasName_spec (w0 : World) (k : Int) : FnE PP w0 [] 85 [.int .i64 k] [] (.bool (hasNm k)) [] := by
  refine fn_of_run en85 fn85 rfl rfl rfl ?_
  repeat' (first | refine zck ?_ | refine zcp (by kernel_rfl) ?_ | (refine zap rfl ?_; first | refine zaj rfl ?_ | refine zak rfl ?_ | refine zam rfl rfl (fun _ => ?_) (fun _ => ?_) | refine zan rfl ?_ | refine zan rfl ?_ | refine zbo rfl rfl ?_ | refine zbu rfl ?_ | refine zbv rfl ?_) | refine zch ?_)
  all_goals exact ret_tmp1 rfl ⟨bool_eq (by simp [hasNm, *]), rfl⟩
theorem hasNum_spec (w0 : World) (k : Int) : FnE PP w0 [] 94 [.int .i64 k] [] (.bool (hasNu k)) [] := by
  refine fn_of_run en94 fn94 rfl rfl rfl ?_
  repeat' (first | refine zck ?_ | refine zcp (by kernel_rfl) ?_ | (refine zap rfl ?_; first | refine zaj rfl ?_ | refine zak rfl ?_ | refine zam rfl rfl (fun _ => ?_) (fun _ => ?_) | refine zan rfl ?_ | refine zan rfl ?_ | refine zbo rfl rfl ?_ | refine zbu rfl ?_ | refine zbv rfl ?_) | refine zch ?_)
  all_goals exact ret_tmp1 rfl ⟨bool_eq (by simp [hasNu, *]), rfl⟩
theorem hasExpr_spec (w0 : World) (k : Int) : FnE PP w0 [] 86 [.int .i64 k] [] (.bool (hasEx k)) [] := by
  refine fn_of_run en86 fn86 rfl rfl rfl ?_
  repeat' (first | refine zck ?_ | refine zcp (by kernel_rfl) ?_ | (refine zap rfl ?_; first | refine zaj rfl ?_ | refine zak rfl ?_ | refine zam rfl rfl (fun _ => ?_) (fun _ => ?_) | refine zan rfl ?_ | refine zan rfl ?_ | refine zbp rfl rfl ?_ | refine zbu rfl ?_ | refine zbv rfl ?_) | refine zch ?_)
  all_goals exact ret_tmp1 rfl ⟨bool_eq (by simp [hasEx, *]), rfl⟩
theorem empty_spec (w0 : World) (sh : Shared) (e : PE) (va vo : Value) (ha : RdEl w0 sh va e.args) (ho : RdEl w0 sh vo e.or) :
    FnE PP w0 [] 95 [.agg (List.toArray (peC e.kind e.num e.name e.meth va vo))] [] (.bool (emptyE e)) [] := by
  obtain ⟨a1, c1, rfl, _⟩ := ha.len
  obtain ⟨a2, c2, rfl, _⟩ := ho.len
  clear ha ho
  obtain ⟨kind, num, name, meth, args, or⟩ := e
  dsimp only [PE.kind, PE.num, PE.name, PE.meth, PE.args, PE.or] at *
  refine fn_of_run en95 fn95 rfl rfl rfl ?_
  repeat' (first | refine zck ?_ | refine zcp (by kernel_rfl) ?_ | (refine zap rfl ?_; first | refine reg_eqS0 rfl rfl ?_ | refine zaj rfl ?_ | refine zak rfl ?_ | refine zam rfl rfl (fun _ => ?_) (fun _ => ?_) | refine zan rfl ?_ | refine zan rfl ?_ | refine zab 0 rfl rfl rfl ?_ | refine zce rfl ?_ | refine zao rfl ?_ | refine zbo rfl rfl ?_ | refine zbu rfl ?_ | refine zbv rfl ?_ | refine zaq (cs := [_, _, _, _, _, _]) rfl (fun nb => ?_)) | refine zch ?_)
  all_goals refine run_take [] rfl ?_
  all_goals refine ret_tmp1 rfl ⟨bool_eq ?_, rfl⟩
  all_goals rw [emptyE_N]
  all_goals generalize name.size = a at *
  all_goals generalize meth.size = m at *
  all_goals generalize args.length = p at *
  all_goals generalize or.length = q at *
  all_goals first | (simp_all [emptyN]; done) | (simp_all [emptyN]; omega)
set_option maxHeartbeats 4000000 in
theorem form_spec (w0 : World) (sh : Shared) (e : PE) (va vo : Value) (ha : RdEl w0 sh va e.args) (ho : RdEl w0 sh vo e.or) (hk : 0 ≤ e.kind ∧ e.kind ≤ 7) :
    FnE PP w0 [] 97 [rV (ruleT e.kind), .agg (List.toArray (peC e.kind e.num e.name e.meth va vo))] [] (.bool (formE (ruleT e.kind) e)) [] := by
  obtain ⟨a1, c1, rfl, _⟩ := ha.len
  obtain ⟨a2, c2, rfl, _⟩ := ho.len
  clear ha ho
  obtain ⟨kind, num, name, meth, args, or⟩ := e
  dsimp only [PE.kind, PE.num, PE.name, PE.meth, PE.args, PE.or] at *
  rcases kind8 hk with rfl | rfl | rfl | rfl | rfl | rfl | rfl | rfl
  all_goals clear hk
  case' inl => rw [show rV (ruleT 0) = .agg (List.toArray [.bool true, .bool false, .bool false, .bool false, .bool false, .int .i64 9223372036854775807, .int .i64 0, .int .i64 0]) from rfl]
  case' inr.inl => rw [show rV (ruleT 1) = .agg (List.toArray [.bool true, .bool false, .bool false, .bool false, .bool false, .int .i64 1, .int .i64 0, .int .i64 0]) from rfl]
  case' inr.inr.inl => rw [show rV (ruleT 2) = .agg (List.toArray [.bool false, .bool true, .bool false, .bool false, .bool false, .int .i64 0, .int .i64 0, .int .i64 0]) from rfl]
  case' inr.inr.inr.inl => rw [show rV (ruleT 3) = .agg (List.toArray [.bool false, .bool false, .bool false, .bool false, .bool false, .int .i64 0, .int .i64 1, .int .i64 1]) from rfl]
  case' inr.inr.inr.inr.inl => rw [show rV (ruleT 4) = .agg (List.toArray [.bool false, .bool false, .bool false, .bool false, .bool false, .int .i64 0, .int .i64 1, .int .i64 1]) from rfl]
  case' inr.inr.inr.inr.inr.inl => rw [show rV (ruleT 5) = .agg (List.toArray [.bool false, .bool false, .bool false, .bool true, .bool false, .int .i64 0, .int .i64 2, .int .i64 2]) from rfl]
  case' inr.inr.inr.inr.inr.inr.inl => rw [show rV (ruleT 6) = .agg (List.toArray [.bool false, .bool true, .bool true, .bool false, .bool true, .int .i64 0, .int .i64 0, .int .i64 4]) from rfl]
  case' inr.inr.inr.inr.inr.inr.inr => rw [show rV (ruleT 7) = .agg (List.toArray [.bool false, .bool true, .bool false, .bool false, .bool false, .int .i64 0, .int .i64 0, .int .i64 4]) from rfl]
  all_goals
    refine fn_of_run en97 fn97 rfl rfl rfl ?_
  all_goals
    repeat (first | refine zck ?_ | refine zcl ?_ | refine zcm ?_ | refine zcn ?_)
    first | refine zcp (by kernel_rfl) ?_ | refine zcq PP_mixed (by kernel_rfl) (by kernel_rfl) ?_
    repeat' (refine zap rfl ?_; first | refine zan rfl ?_ | refine zaq (cs := [_, _, _, _, _, _]) rfl (fun nb => ?_) | refine zaq (cs := [_, _, _, _, _, _, _, _]) rfl (fun nb => ?_))
    all_goals refine zch ?_
    all_goals repeat (first | refine zck ?_ | refine zcl ?_ | refine zcm ?_ | refine zcn ?_)
  all_goals refine run_share [0] rfl ?_
  all_goals refine run_share [0] rfl ?_
  all_goals
    repeat' (first | refine zck ?_ | refine zcp (by kernel_rfl) ?_ | refine zcq PP_mixed (by kernel_rfl) (by kernel_rfl) ?_ | refine zcm ?_ | refine zcn ?_ | (refine zap rfl ?_; first | refine reg_neS0 rfl rfl ?_ | refine zaj rfl ?_ | refine zak rfl ?_ | refine zal rfl ?_ | refine zam rfl rfl (fun _ => ?_) (fun _ => ?_) | refine zan rfl ?_ | refine zan rfl ?_ | refine zaa 0 rfl rfl rfl ?_ | refine zaa 1 rfl rfl rfl ?_ | refine zce rfl ?_ | (refine zai [] (binaries_spec w0) rfl rfl rfl sub_nil ?_; rintro v Γ rfl) | (refine zai [0] (Fn.lendR en67 (fun sh' bl h1 h2 h3 => (contains_v w0 sh' _ sgL _ (h3.mono h2) (by decide)).dec)) rfl rfl rfl sub_nil ?_; rintro v Γ ⟨_, ⟨rfl, rfl⟩, rfl⟩) | refine zao rfl ?_ | refine zbg rfl rfl (by omega) ?_ | refine zbh rfl rfl (by omega) ?_ | refine zbo rfl rfl ?_ | refine zbp rfl rfl ?_ | refine zbq rfl rfl ?_ | refine zbs rfl rfl ?_ | refine zby rfl ?_ | refine zbx rfl ?_ | refine zbu rfl ?_ | refine zbv rfl ?_) | refine zch ?_ | refine zci rfl ?_ | refine zcj rfl ?_ | refine run_cond rfl (fun _ => ?_) (fun _ => ?_))
  all_goals refine run_take [] rfl ?_
  all_goals refine ret_tmp1 rfl ⟨bool_eq ?_, rfl⟩
  all_goals rw [formE_N]
  all_goals generalize name.size = a at *
  all_goals generalize inS sgL meth = b at *
  all_goals generalize meth.size = m at *
  all_goals generalize args.length = p at *
  all_goals generalize or.length = q at *
  all_goals cases b
  all_goals first | (simp_all [formN, ruleT]; done) | (simp_all [formN, ruleT]; omega) | (rw [Bool.eq_iff_iff]; simp_all [formN, ruleT]; omega)
end Go.Proofs.YtfnjeldpfilplaaGreatDoor

namespace Sim
theorem PE.sizeL_len : ∀ l : List PE, l.length ≤ PE.sizeL l
  | [] => Nat.zero_le _
  | x :: l => by have := PE.sizeL_len l; have := x.size_pos; unfold PE.sizeL; simp only [List.length_cons]; omega
theorem wrongEs_drop {l : List PE} {j : Nat} {x : PE} {d : Int} (h : l[j]? = some x) : wrongEs (l.drop j) d = if wrongE x d ≠ 0 then wrongE x d else wrongEs (l.drop (j + 1)) d := by
  have hj := (List.getElem?_eq_some_iff.1 h).1
  rw [List.drop_eq_getElem_cons hj, (List.getElem?_eq_some_iff.1 h).2, wrongEs]
end Sim
namespace Go.Proofs.YtfnjeldpfilplaaGreatDoor
open Go.Vc Sim
set_option maxHeartbeats 8000000 in
theorem wrongE_spec (w0 : World) (hk : KwOk w0) : ∀ (n : Nat) (sh : Shared) (e : PE) (va vo : Value) (d : Int), e.size ≤ n → n ≤ 1000000 → RdEl w0 sh va e.args → RdEl w0 sh vo e.or → 0 ≤ d →
    FnE PP w0 sh 87 [.agg (List.toArray (peC e.kind e.num e.name e.meth va vo)), .int .i64 d] [] (.int .i64 (wrongE e d)) [] := by
  intro n
  induction n with
  | zero => intro sh e va vo d h; have := e.size_pos; omega
  | succ n ih =>
  intro sh e va vo d hs hn ha ho hd0
  obtain ⟨r, hr⟩ : ∃ r, ruleT e.kind = r := ⟨_, rfl⟩
  have hE : ∀ c, wrongE0 e d = c → c ≠ 0 → wrongE e d = c := fun c h1 h2 => by rw [wrongE_eq, h1, if_pos h2]
  obtain ⟨a1, c1, hva, _⟩ := id ha.len
  obtain ⟨a2, c2, hvo, _⟩ := id ho.len
  subst hva
  subst hvo
  refine fn_of_run en87 fn87 rfl rfl rfl ?_
  repeat (first | refine zck ?_ | refine zcl ?_ | refine zcm ?_ | refine zcn ?_)
  first | refine zcp (by kernel_rfl) ?_ | refine zcq PP_mixed (by kernel_rfl) (by kernel_rfl) ?_
  repeat' (refine zap rfl ?_; first | refine zan rfl ?_ | refine zaq (cs := [_, _, _, _, _, _]) rfl (fun nb => ?_))
  all_goals refine zch ?_
  all_goals repeat (first | refine zck ?_ | refine zcl ?_ | refine zcm ?_ | refine zcn ?_)
  refine run_share [0] rfl ?_
  obtain ⟨be, hbe⟩ : ∃ b, b = nb := ⟨_, rfl⟩
  subst hbe
  by_cases hd : 12 < d
  · have h1 := hE 18 (by unfold wrongE0; rw [if_pos hd]) (by decide)
    rw [h1]
    repeat' (first | refine zck ?_ | refine zcp (by kernel_rfl) ?_ | (refine zap rfl ?_; first | refine zan rfl ?_ | refine zan rfl ?_ | refine zbk rfl rfl (by omega) ?_) | refine zch ?_ | refine zci rfl ?_)
    refine run_take [] rfl ?_
    exact ret_tmp1 rfl ⟨rfl, rfl⟩
  by_cases hk0 : e.kind < 0
  · have h1 := hE 2 (by unfold wrongE0; rw [if_neg hd, if_pos (.inl hk0)]) (by decide)
    rw [h1]
    repeat' (first | refine zck ?_ | refine zcp (by kernel_rfl) ?_ | (refine zap rfl ?_; first | refine zak rfl ?_ | refine zan rfl ?_ | refine zan rfl ?_ | refine zaa 0 rfl rfl rfl ?_ | refine zao rfl ?_ | refine zbg rfl rfl (by omega) ?_ | refine zbl rfl rfl (by omega) ?_ | refine zbu rfl ?_) | refine zch ?_ | refine zci rfl ?_ | refine zcj rfl ?_)
    refine run_take [] rfl ?_
    exact ret_tmp1 rfl ⟨rfl, rfl⟩
  by_cases hk7 : 7 < e.kind
  · have h1 := hE 2 (by unfold wrongE0; rw [if_neg hd, if_pos (.inr hk7)]) (by decide)
    rw [h1]
    repeat' (first | refine zck ?_ | refine zcp (by kernel_rfl) ?_ | (refine zap rfl ?_; first | refine zaj rfl ?_ | refine zan rfl ?_ | refine zan rfl ?_ | refine zaa 0 rfl rfl rfl ?_ | refine zao rfl ?_ | refine zbh rfl rfl (by omega) ?_ | refine zbk rfl rfl (by omega) ?_ | refine zbl rfl rfl (by omega) ?_ | refine zbv rfl ?_) | refine zch ?_ | refine zci rfl ?_ | refine zcj rfl ?_)
    refine run_take [] rfl ?_
    exact ret_tmp1 rfl ⟨rfl, rfl⟩
  have hk8 : 0 ≤ e.kind ∧ e.kind ≤ 7 := by omega
  have hrd := rulesL_rd hk8
  have hform := form_spec w0 sh e _ _ ha ho hk8
  have hw : wrongE0 e d = if formE r e = false then 5 else if (r.name && !nameB e.name) || (r.meth && !nameB e.meth) then 16 else if r.num && (decide (e.num < 0) || decide (r.top < e.num)) then 3 else 0 := by
    unfold wrongE0; rw [if_neg hd, if_neg (by omega), hr]
  rw [hr] at hrd hform
  obtain ⟨B, hB⟩ : ∃ B, formE r e = B := ⟨_, rfl⟩
  rw [hB] at hform hw
  cases B with
  | false =>
    rw [if_pos rfl] at hw
    rw [hE 5 hw (by decide)]
    repeat' (first | refine zck ?_ | refine zcp (by kernel_rfl) ?_ | refine zcq PP_mixed (by kernel_rfl) (by kernel_rfl) ?_ | refine zcm ?_ | refine zcl ?_ | refine zcn ?_ | (refine zap rfl ?_; first | refine reg_indexA rfl rfl (by omega) hrd ?_ | refine zaj rfl ?_ | refine zan rfl ?_ | refine zan rfl ?_ | refine zaa 0 rfl rfl rfl ?_ | refine zab 0 rfl rfl rfl ?_ | refine zah [] (rules_spec w0) rfl rfl rfl sub_nil rfl ?_ | refine zah [] hform rfl rfl rfl sub_nil rfl ?_ | refine zao rfl ?_ | refine zbh rfl rfl (by omega) ?_ | refine zbl rfl rfl (by omega) ?_ | refine zbx rfl ?_ | refine zbv rfl ?_ | refine zae 0 rfl rfl rfl rfl rfl rfl rfl ?_ | refine zar (fun nb => ?_)) | refine zch ?_ | refine zci rfl ?_ | refine zcj rfl ?_)
    refine run_take [] rfl ?_
    exact ret_tmp1 rfl ⟨rfl, rfl⟩
  | true =>
  rw [if_neg (by decide)] at hw
  repeat (first | refine zck ?_ | refine zcl ?_ | refine zcm ?_ | refine zcn ?_)
  first | refine zcp (by kernel_rfl) ?_ | refine zcq PP_mixed (by kernel_rfl) (by kernel_rfl) ?_
  repeat' (refine zap rfl ?_; first | refine zan rfl ?_ | refine zan rfl ?_ | refine zbl rfl rfl (by omega) ?_)
  all_goals refine zch ?_
  all_goals repeat (refine zck ?_)
  refine zcj rfl ?_
  repeat (first | refine zck ?_ | refine zcl ?_ | refine zcm ?_ | refine zcn ?_)
  first | refine zcp (by kernel_rfl) ?_ | refine zcq PP_mixed (by kernel_rfl) (by kernel_rfl) ?_
  repeat' (refine zap rfl ?_; first | refine zaj rfl ?_ | refine zan rfl ?_ | refine zan rfl ?_ | refine zaa 0 rfl rfl rfl ?_ | refine zao rfl ?_ | refine zbh rfl rfl (by omega) ?_ | refine zbl rfl rfl (by omega) ?_ | refine zbv rfl ?_)
  all_goals refine zch ?_
  all_goals repeat (refine zck ?_)
  refine zcj rfl ?_
  repeat (first | refine zck ?_ | refine zcl ?_ | refine zcm ?_ | refine zcn ?_)
  first | refine zcp (by kernel_rfl) ?_ | refine zcq PP_mixed (by kernel_rfl) (by kernel_rfl) ?_
  repeat' (refine zap rfl ?_; first | refine reg_indexA rfl rfl (by omega) hrd ?_ | refine zaa 0 rfl rfl rfl ?_ | refine zah [] (rules_spec w0) rfl rfl rfl sub_nil rfl ?_ | refine zao rfl ?_ | refine zae 0 rfl rfl rfl rfl rfl rfl rfl ?_ | refine zar (fun nb => ?_))
  all_goals refine zch ?_
  all_goals repeat (refine zck ?_)
  refine run_bind_eq2 (σ := { _u : Unit // wrongE0 e d = 0 }) (l' := fun _ => [(1, .int .i64 d), (2, .pointer (some ⟨be, 0, none⟩))]) (Γ' := fun _ => []) ?_ ?_
  · repeat' (first | refine zck ?_ | refine zcp (by kernel_rfl) ?_ | refine zcm ?_ | refine zcl ?_ | refine zcn ?_ | (refine zap rfl ?_; first | refine zaj rfl ?_ | refine zak rfl ?_ | refine zal rfl ?_ | refine zam rfl rfl (fun _ => ?_) (fun _ => ?_) | refine zan rfl ?_ | refine zan rfl ?_ | refine zaa 0 rfl rfl rfl ?_ | refine zab 0 rfl rfl rfl ?_ | refine zah [] hform rfl rfl rfl sub_nil rfl ?_ | refine zah [] (isName_spec w0 hk _).dec rfl rfl rfl sub_nil rfl ?_ | refine zao rfl ?_ | refine zbq rfl rfl ?_ | refine zbs rfl rfl ?_ | refine zby rfl ?_ | refine zbx rfl ?_ | refine zbu rfl ?_ | refine zbv rfl ?_) | refine zch ?_ | refine zci rfl ?_ | refine zcj rfl ?_ | refine run_cond rfl (fun _ => ?_) (fun _ => ?_))
    all_goals refine run_take [] rfl ?_
    all_goals first | exact qret1 (fun _ _ h => h) rfl ⟨int_eq (hE _ (by rw [hw]; clear hE ih hform hrd ha ho hw; simp_all) (by decide)).symm, rfl⟩ | exact cut_end ⟨rfl, ⟨(), by rw [hw]; clear hE ih hform hrd ha ho hw; simp_all⟩, ⟨rfl, rfl, trivial⟩, rfl⟩
  · rintro ⟨_, hw0⟩ junk
    repeat' (first | refine zck ?_ | refine zcp (by kernel_rfl) ?_ | refine zcl ?_ | (refine zap rfl ?_; first | refine reg_buildSlice rfl rfl rfl rfl rfl rfl (fun nb2 => ?_) | refine zan rfl ?_ | refine zaa 0 rfl rfl rfl ?_ | refine zce rfl ?_ | refine zao rfl ?_) | refine zch ?_)
    refine run_share [0] rfl ?_
    have hget : ∀ i, i < 2 → ∃ (a : Option Addr) (c : Nat) (L : List PE), (∀ o, o = 0 + i * 1 → rd false 1 [Value.slice a1 e.args.length c1, Value.slice a2 e.or.length c2] o = some (.slice a L.length c)) ∧ RdEl w0 sh (.slice a L.length c) L ∧ (∀ x ∈ L, x.size ≤ n) ∧ L.length ≤ 1000000 ∧
        (i = 0 → L = e.args) ∧ (i = 1 → L = e.or) := by
      intro i hi
      have h1 := e.size_eq
      have h2 := fun (x : PE) (h : x ∈ e.args) => PE.size_args h
      have h3 := fun (x : PE) (h : x ∈ e.or) => PE.size_or h
      have h4 := PE.sizeL_len e.args
      have h5 := PE.sizeL_len e.or
      rcases (by omega : i = 0 ∨ i = 1) with rfl | rfl
      · exact ⟨a1, c1, e.args, fun o ho => by subst ho; rfl, ha, fun x hx => by have := h2 x hx; omega, by omega, fun _ => rfl, fun h => by omega⟩
      · exact ⟨a2, c2, e.or, fun o ho => by subst ho; rfl, ho, fun x hx => by have := h3 x hx; omega, by omega, fun h => by omega, fun _ => rfl⟩
    have hwe := wrongE_eq e d
    rw [hw0, if_neg (by decide)] at hwe
    refine run_loop (S := Nat) (fun i => [(1, .int .i64 d), (68, .slice (some ⟨nb2, 0, none⟩) 2 2), (69, .int .i64 2), (70, .int .i64 i)])
      (fun i Γ => Γ = [] ∧ i ≤ 2 ∧ (1 ≤ i → wrongEs e.args (d + 1) = 0) ∧ (2 ≤ i → wrongEs e.or (d + 1) = 0)) (fun i => 2 - i) 0 ⟨rfl, rfl, rfl, rfl, trivial⟩ ⟨rfl, by omega, fun h => by omega, fun h => by omega⟩ ?_
    rintro i Γ junk ⟨rfl, g1, g2, g3⟩
    by_cases hi : i < 2
    · obtain ⟨a, c, L, l1, l2, l3, l4, l5, l6⟩ := hget i hi
      have hwL : wrongEs L (d + 1) ≠ 0 → wrongE e d = wrongEs L (d + 1) := fun h => by
        rcases (by omega : i = 0 ∨ i = 1) with h0 | h0
        · rw [hwe, ← l5 h0, if_pos h]
        · rw [hwe, g2 (by omega), if_neg (by decide), ← l6 h0]
      repeat' (first | refine zck ?_ | refine zcp (by kernel_rfl) ?_ | refine zcm ?_ | refine zcl ?_ | (refine zap rfl ?_; first | refine zaa 0 rfl rfl (l1 _ (by omega)) ?_ | refine zan rfl ?_ | refine zan rfl ?_ | refine zce rfl ?_ | refine zbg rfl rfl (by omega) ?_ | refine zas rfl rfl (by omega) ?_) | refine zch ?_ | refine zci rfl ?_)
      refine run_loop (S := Nat) (fun j => [(1, .int .i64 d), (68, .slice (some ⟨nb2, 0, none⟩) 2 2), (69, .int .i64 2), (70, .int .i64 i), (74, .slice a L.length c), (75, .int .i64 L.length), (76, .int .i64 j)])
        (fun j Γ => Γ = [] ∧ j ≤ L.length ∧ wrongEs (L.drop j) (d + 1) = wrongEs L (d + 1)) (fun j => L.length - j) 0 ⟨rfl, rfl, rfl, rfl, rfl, rfl, rfl, trivial⟩ ⟨rfl, by omega, rfl⟩ ?_
      rintro j Γ junk ⟨rfl, q1, q2⟩
      by_cases hj : j < L.length
      · obtain ⟨x, hx⟩ : ∃ x, L[j]? = some x := ⟨_, List.getElem?_eq_getElem hj⟩
        obtain ⟨b, off, cc, T, fr, cs, rfl, e2, e3, e4, _⟩ := l2.at hx
        obtain ⟨va, vo, rfl, r1, r2⟩ := e4.cs
        have hxn := l3 x (List.mem_iff_getElem?.2 ⟨_, hx⟩)
        obtain ⟨a3, c3, hv3, _⟩ := id r1.len
        obtain ⟨a4, c4, hv4, _⟩ := id r2.len
        subst hv3
        subst hv4
        have hcall := ih _ x _ _ (d + 1) hxn (by omega) r1 r2 (by omega)
        rw [wrongEs_drop hx] at q2
        by_cases h0 : wrongE x (d + 1) = 0
        · rw [if_neg (by omega)] at q2
          rw [h0] at hcall
          repeat' (first | refine zck ?_ | refine zcp (by kernel_rfl) ?_ | refine zcm ?_ | refine zcl ?_ | refine zcn ?_ | (refine zap rfl ?_; first | refine zad rfl (fun hF Γ w h1 h2 => e2 hF Γ w (fun p hp => h1 p (by simp [hp])) h2) (e3 _ (by omega)) ?_ | refine zan rfl ?_ | refine zan rfl ?_ | refine zab 0 rfl rfl rfl ?_ | refine zce rfl ?_ | refine zah [] hcall rfl rfl rfl (fun p hp => by simp [hp]) rfl ?_ | refine zce rfl ?_ | refine zbf rfl rfl (by omega) ?_ | refine zbg rfl rfl (by omega) ?_ | refine zau rfl rfl (by omega) ?_ | refine zae 0 rfl rfl rfl rfl rfl rfl rfl ?_ | refine zas rfl rfl (by omega) ?_ | refine zar (fun nb => ?_)) | refine zch ?_ | refine zci rfl ?_ | refine zcj rfl ?_)
          refine run_take [] rfl ?_
          exact cut_end ⟨rfl, j + 1, ⟨rfl, rfl, rfl, rfl, rfl, rfl, int_eq (by omega), trivial⟩, ⟨rfl, by omega, q2⟩, by omega⟩
        · rw [if_pos h0] at q2
          have hq : wrongE e d = wrongE x (d + 1) := by rw [q2]; exact hwL (by rw [← q2]; exact h0)
          repeat' (first | refine zck ?_ | refine zcp (by kernel_rfl) ?_ | refine zcm ?_ | refine zcl ?_ | (refine zap rfl ?_; first | refine zad rfl (fun hF Γ w h1 h2 => e2 hF Γ w (fun p hp => h1 p (by simp [hp])) h2) (e3 _ (by omega)) ?_ | refine zan rfl ?_ | refine zan rfl ?_ | refine zab 0 rfl rfl rfl ?_ | refine zce rfl ?_ | refine zah [] hcall rfl rfl rfl (fun p hp => by simp [hp]) rfl ?_ | refine zce rfl ?_ | refine zbe rfl rfl (by omega) ?_ | refine zbg rfl rfl (by omega) ?_ | refine zau rfl rfl (by omega) ?_ | refine zae 0 rfl rfl rfl rfl rfl rfl rfl ?_ | refine zas rfl rfl (by omega) ?_ | refine zar (fun nb => ?_)) | refine zch ?_ | refine zci rfl ?_)
          refine run_take [] rfl ?_
          exact qret1 (fun _ _ h => h) rfl ⟨int_eq hq.symm, rfl⟩
      · have hLw : wrongEs L (d + 1) = 0 := by rw [← q2, List.drop_of_length_le (by omega)]; rfl
        repeat' (first | refine zck ?_ | refine zcp (by kernel_rfl) ?_ | (refine zap rfl ?_; first | refine zbh rfl rfl (by omega) ?_) | refine zch ?_ | refine zcj rfl ?_)
        refine cut_exit rfl rfl ?_
        repeat' (first | refine zcp (by kernel_rfl) ?_ | refine zcn ?_ | (refine zap rfl ?_; first | refine zan rfl ?_ | refine zau rfl rfl (by omega) ?_) | refine zch ?_)
        exact cut_end ⟨rfl, i + 1, ⟨rfl, rfl, rfl, int_eq (by omega), trivial⟩, ⟨rfl, by omega, fun h => by
          by_cases h0 : i = 0
          · rw [← l5 h0]; exact hLw
          · exact g2 (by omega), fun h => by rw [← l6 (by omega)]; exact hLw⟩, by omega⟩
    · repeat' (first | refine zck ?_ | refine zcp (by kernel_rfl) ?_ | (refine zap rfl ?_; first | refine zbh rfl rfl (by omega) ?_) | refine zch ?_ | refine zcj rfl ?_)
      refine cut_exit rfl rfl ?_
      repeat' (first | refine zck ?_ | refine zcp (by kernel_rfl) ?_ | (refine zap rfl ?_; first | refine zan rfl ?_) | refine zch ?_)
      refine ret_tmp1 rfl ⟨int_eq ?_, rfl⟩
      rw [hwe, g2 (by omega), if_neg (by decide), g3 (by omega)]
end Go.Proofs.YtfnjeldpfilplaaGreatDoor

namespace Sim
theorem PS.sizeL_len : ∀ l : List PS, l.length ≤ PS.sizeL l
  | [] => Nat.zero_le _
  | x :: l => by have := PS.sizeL_len l; have := x.size_pos; unfold PS.sizeL; simp only [List.length_cons]; omega
theorem wrongSs_drop {l : List PS} {j : Nat} {x : PS} {d : Int} (h : l[j]? = some x) : wrongSs (l.drop j) d = if wrongS x d ≠ 0 then wrongS x d else wrongSs (l.drop (j + 1)) d := by
  have hj := (List.getElem?_eq_some_iff.1 h).1
  rw [List.drop_eq_getElem_cons hj, (List.getElem?_eq_some_iff.1 h).2, wrongSs]
def formSN (k : Int) (a : Nat) (num : Int) (emp : Bool) (els body : Nat) (ek : Int) : Bool :=
  if (!hasNm k && !decide (a = 0)) || (!hasNu k && decide (num ≠ 0)) || (!hasEx k && !emp) then false
  else if (decide (k ≠ 3) && decide (0 < els)) || (decide (k ≠ 3) && decide (k ≠ 4) && decide (0 < body)) then false
  else decide (k ≠ 2) || decide (ek = 6) || decide (ek = 7)
theorem formS_N (k num : Int) (name : ByteArray) (e : PE) (body els : List PS) : formS (.mk k name num e body els) = formSN k name.size num (emptyE e) els.length body.length e.kind := rfl
end Sim
namespace Go.Vc
open Sim
abbrev psC (s : PS) (va vo vb ve : Value) : List Value := [.int .i64 s.kind, .string s.name, .int .i64 s.num, .int .i64 s.expr.kind, .int .i64 s.expr.num, .string s.expr.name, .string s.expr.meth, va, vo, vb, ve]
theorem kind7 {k : Int} (h : 0 ≤ k ∧ k ≤ 6) : k = 0 ∨ k = 1 ∨ k = 2 ∨ k = 3 ∨ k = 4 ∨ k = 5 ∨ k = 6 := by omega
structure RdSp (w0 : World) (sh : Shared) (s : PS) (va vo vb ve : Value) : Prop where
  a : RdEl w0 sh va s.expr.args
  o : RdEl w0 sh vo s.expr.or
  b : RdSt w0 sh vb s.body
  e : RdSt w0 sh ve s.els
theorem RdS.sp {w0 : World} {sh : Shared} {s : PS} {cs : List Value} (h : RdS w0 sh s cs) : ∃ va vo vb ve, cs = psC s va vo vb ve ∧ RdSp w0 sh s va vo vb ve := by
  obtain ⟨va, vo, vb, ve, h1, h2, h3, h4⟩ := h.cs
  obtain ⟨va', vo', e, h5, h6⟩ := h2.cs
  simp only [peC, List.cons.injEq, and_true, true_and] at e
  obtain ⟨rfl, rfl⟩ := e
  exact ⟨va, vo, vb, ve, h1, ⟨h5, h6, h3, h4⟩⟩
end Go.Vc
namespace Go.Proofs.YtfnjeldpfilplaaGreatDoor
open Go.Vc Sim
set_option maxHeartbeats 4000000 in
theorem formS_spec (w0 : World) (sh : Shared) (s : PS) (va vo vb ve : Value) (hr : RdSp w0 sh s va vo vb ve) (hk : 0 ≤ s.kind ∧ s.kind ≤ 6) :
    FnE PP w0 [] 84 [.agg (List.toArray (psC s va vo vb ve))] [] (.bool (formS s)) [] := by
  obtain ⟨ha, ho, hb, he⟩ := hr
  have hemp := (empty_spec w0 sh s.expr va vo ha ho).dec
  obtain ⟨a1, c1, hva, _⟩ := ha.len
  obtain ⟨a2, c2, hvo, _⟩ := ho.len
  obtain ⟨a3, c3, hvb, _⟩ := hb.len
  obtain ⟨a4, c4, hve, _⟩ := he.len
  subst hva; subst hvo; subst hvb; subst hve
  clear ha ho hb he
  obtain ⟨kind, name, num, expr, body, els⟩ := s
  dsimp only [psC, PS.kind, PS.num, PS.name, PS.expr, PS.body, PS.els] at *
  rcases kind7 hk with rfl | rfl | rfl | rfl | rfl | rfl | rfl
  all_goals clear hk
  all_goals
    refine fn_of_run en84 fn84 rfl rfl rfl ?_
  all_goals
    repeat' (first | refine zck ?_ | refine zcp (by kernel_rfl) ?_ | refine zcm ?_ | refine zcl ?_ | refine zcn ?_ | (refine zap rfl ?_; first | refine reg_neS0 rfl rfl ?_ | refine zaj rfl ?_ | refine zak rfl ?_ | refine zam rfl rfl (fun _ => ?_) (fun _ => ?_) | refine zan rfl ?_ | refine zan rfl ?_ | refine zab 0 rfl rfl rfl ?_ | refine zce rfl ?_ | refine zah [] (hasName_spec w0 _) rfl rfl rfl sub_nil rfl ?_ | refine zah [] (hasNum_spec w0 _) rfl rfl rfl sub_nil rfl ?_ | refine zah [] (hasExpr_spec w0 _) rfl rfl rfl sub_nil rfl ?_ | refine zah [] hemp rfl rfl rfl sub_nil rfl ?_ | refine zao rfl ?_ | refine zbe rfl rfl (by omega) ?_ | refine zbf rfl rfl (by omega) ?_ | refine zbk rfl rfl (by omega) ?_ | refine zbo rfl rfl ?_ | refine zbp rfl rfl ?_ | refine zbs rfl rfl ?_ | refine zby rfl ?_ | refine zbx rfl ?_ | refine zbu rfl ?_ | refine zbv rfl ?_ | refine zaq (cs := [_, _, _, _, _, _, _, _, _, _, _]) rfl (fun nb => ?_)) | refine zch ?_ | refine zci rfl ?_ | refine zcj rfl ?_ | refine run_cond rfl (fun _ => ?_) (fun _ => ?_))
  all_goals refine run_take [] rfl ?_
  all_goals refine ret_tmp1 rfl ⟨bool_eq ?_, rfl⟩
  all_goals clear hemp
  all_goals rw [formS_N]
  all_goals generalize name.size = a at *
  all_goals generalize emptyE expr = b at *
  all_goals generalize body.length = p at *
  all_goals generalize els.length = q at *
  all_goals generalize expr.kind = ek at *
  all_goals cases b
  all_goals first | (simp_all [formSN, hasNm, hasNu, hasEx]; done) | (simp_all [formSN, hasNm, hasNu, hasEx]; omega) | (rw [Bool.eq_iff_iff]; simp_all [formSN, hasNm, hasNu, hasEx]; omega)
def SSpec (w0 : World) (n : Nat) : Prop := ∀ (sh : Shared) (s : PS) (va vo vb ve : Value) (d : Int), s.size ≤ n → RdSp w0 sh s va vo vb ve → 0 ≤ d → d ≤ 1000 →
  FnE PP w0 sh 70 [.agg (List.toArray (psC s va vo vb ve)), .int .i64 d] [] (.int .i64 (wrongS s d)) []
def LSpec (w0 : World) (n : Nat) : Prop := ∀ (sh : Shared) (v : Value) (l : List PS) (d : Int), PS.sizeL l ≤ n → RdSt w0 sh v l → 0 ≤ d → d ≤ 1000 →
  FnE PP w0 sh 54 [v, .int .i64 d] [] (.int .i64 (wrongSs l d)) []
theorem wrongs_of (w0 : World) (n : Nat) (hn : n ≤ 1000000) (hS : SSpec w0 n) : LSpec w0 n := by
  intro sh v l d hl hr hd0 hd1
  obtain ⟨a, c, hv, _⟩ := hr.len
  subst hv
  have hlen := PS.sizeL_len l
  refine fn_of_run en54 fn54 rfl rfl rfl ?_
  repeat' (first | refine zck ?_ | refine zcp (by kernel_rfl) ?_ | refine zcl ?_ | (refine zap rfl ?_; first | refine zan rfl ?_ | refine zan rfl ?_ | refine zce rfl ?_) | refine zch ?_)
  refine run_loop (S := Nat) (fun j => [(1, .int .i64 d), (8, .slice a l.length c), (9, .int .i64 l.length), (10, .int .i64 j)])
    (fun j Γ => Γ = [] ∧ j ≤ l.length ∧ wrongSs (l.drop j) d = wrongSs l d) (fun j => l.length - j) 0 ⟨rfl, rfl, rfl, rfl, trivial⟩ ⟨rfl, by omega, rfl⟩ ?_
  rintro j Γ junk ⟨rfl, q1, q2⟩
  by_cases hj : j < l.length
  · obtain ⟨x, hx⟩ : ∃ x, l[j]? = some x := ⟨_, List.getElem?_eq_getElem hj⟩
    obtain ⟨b, off, cc, T, fr, cs, rfl, e2, e3, e4, _⟩ := hr.at hx
    obtain ⟨va, vo, vb, ve, rfl, hsp⟩ := e4.sp
    have hxn := PS.sizeL_mem (List.mem_iff_getElem?.2 ⟨_, hx⟩)
    obtain ⟨a1, c1, hva, _⟩ := hsp.a.len
    obtain ⟨a2, c2, hvo, _⟩ := hsp.o.len
    obtain ⟨a3, c3, hvb, _⟩ := hsp.b.len
    obtain ⟨a4, c4, hve, _⟩ := hsp.e.len
    subst hva; subst hvo; subst hvb; subst hve
    have hcall := hS sh x _ _ _ _ d (by omega) hsp hd0 hd1
    rw [wrongSs_drop hx] at q2
    by_cases h0 : wrongS x d = 0
    · rw [if_neg (by omega)] at q2
      rw [h0] at hcall
      repeat' (first | refine zck ?_ | refine zcp (by kernel_rfl) ?_ | refine zcm ?_ | refine zcl ?_ | refine zcn ?_ | (refine zap rfl ?_; first | refine zad rfl e2 (e3 _ (by omega)) ?_ | refine zan rfl ?_ | refine zan rfl ?_ | refine zab 0 rfl rfl rfl ?_ | refine zah [] hcall rfl rfl rfl (fun _ h => h) rfl ?_ | refine zbf rfl rfl (by omega) ?_ | refine zbg rfl rfl (by omega) ?_ | refine zau rfl rfl (by omega) ?_ | refine zae 0 rfl rfl rfl rfl rfl rfl rfl ?_ | refine zas rfl rfl (by omega) ?_ | refine zar (fun nb => ?_)) | refine zch ?_ | refine zci rfl ?_ | refine zcj rfl ?_)
      refine run_take [] rfl ?_
      exact cut_end ⟨rfl, j + 1, ⟨rfl, rfl, rfl, int_eq (by omega), trivial⟩, ⟨rfl, by omega, q2⟩, by omega⟩
    · rw [if_pos h0] at q2
      repeat' (first | refine zck ?_ | refine zcp (by kernel_rfl) ?_ | refine zcm ?_ | refine zcl ?_ | (refine zap rfl ?_; first | refine zad rfl e2 (e3 _ (by omega)) ?_ | refine zan rfl ?_ | refine zan rfl ?_ | refine zab 0 rfl rfl rfl ?_ | refine zah [] hcall rfl rfl rfl (fun _ h => h) rfl ?_ | refine zbe rfl rfl (by omega) ?_ | refine zbg rfl rfl (by omega) ?_ | refine zae 0 rfl rfl rfl rfl rfl rfl rfl ?_ | refine zas rfl rfl (by omega) ?_ | refine zar (fun nb => ?_)) | refine zch ?_ | refine zci rfl ?_)
      refine run_take [] rfl ?_
      exact qret1 (fun _ _ h => h) rfl ⟨int_eq q2, rfl⟩
  · repeat' (first | refine zck ?_ | refine zcp (by kernel_rfl) ?_ | (refine zap rfl ?_; first | refine zbh rfl rfl (by omega) ?_) | refine zch ?_ | refine zcj rfl ?_)
    refine cut_exit rfl rfl ?_
    repeat' (first | refine zck ?_ | refine zcp (by kernel_rfl) ?_ | (refine zap rfl ?_; first | refine zan rfl ?_) | refine zch ?_)
    rw [List.drop_of_length_le (by omega)] at q2
    exact ret_tmp1 rfl ⟨int_eq q2, rfl⟩
end Go.Proofs.YtfnjeldpfilplaaGreatDoor

namespace Go.Proofs.YtfnjeldpfilplaaGreatDoor
open Go.Vc Sim
set_option maxHeartbeats 8000000 in
theorem wrongS_step (w0 : World) (hk : KwOk w0) (n : Nat) (hn : n + 1 ≤ 1000000) (hL : LSpec w0 n) : SSpec w0 (n + 1) := by
  intro sh s va vo vb ve d hs hsp hd0 hd1
  have hE : ∀ c, wrongS0 s d = c → c ≠ 0 → wrongS s d = c := fun c h1 h2 => by rw [wrongS_eq, h1, if_pos h2]
  obtain ⟨a1, c1, hva, _⟩ := hsp.a.len
  obtain ⟨a2, c2, hvo, _⟩ := hsp.o.len
  obtain ⟨a3, c3, hvb, _⟩ := hsp.b.len
  obtain ⟨a4, c4, hve, _⟩ := hsp.e.len
  subst hva; subst hvo; subst hvb; subst hve
  refine fn_of_run en70 fn70 rfl rfl rfl ?_
  repeat (first | refine zck ?_ | refine zcl ?_ | refine zcm ?_ | refine zcn ?_)
  first | refine zcp (by kernel_rfl) ?_ | refine zcq PP_mixed (by kernel_rfl) (by kernel_rfl) ?_
  repeat' (refine zap rfl ?_; first | refine zan rfl ?_ | refine zaq (cs := [_, _, _, _, _, _, _, _, _, _, _]) rfl (fun nb => ?_))
  all_goals refine zch ?_
  all_goals repeat (refine zck ?_)
  refine run_share [0] rfl ?_
  obtain ⟨be, hbe⟩ : ∃ b, b = nb := ⟨_, rfl⟩
  subst hbe
  by_cases hd : 12 < d
  · have h1 := hE 18 (by unfold wrongS0; rw [if_pos hd]) (by decide)
    rw [h1]
    repeat' (first | refine zck ?_ | refine zcp (by kernel_rfl) ?_ | refine zcl ?_ | (refine zap rfl ?_; first | refine zan rfl ?_ | refine zan rfl ?_ | refine zbk rfl rfl (by omega) ?_) | refine zch ?_ | refine zci rfl ?_)
    exact ret_tmp1 rfl ⟨rfl, rfl⟩
  by_cases hk0 : s.kind < 0
  · have h1 := hE 2 (by unfold wrongS0; rw [if_neg hd, if_pos (.inl hk0)]) (by decide)
    rw [h1]
    repeat' (first | refine zck ?_ | refine zcp (by kernel_rfl) ?_ | refine zcl ?_ | (refine zap rfl ?_; first | refine zak rfl ?_ | refine zan rfl ?_ | refine zan rfl ?_ | refine zaa 0 rfl rfl rfl ?_ | refine zao rfl ?_ | refine zbg rfl rfl (by omega) ?_ | refine zbl rfl rfl (by omega) ?_ | refine zbu rfl ?_) | refine zch ?_ | refine zci rfl ?_ | refine zcj rfl ?_)
    exact ret_tmp1 rfl ⟨rfl, rfl⟩
  by_cases hk7 : 6 < s.kind
  · have h1 := hE 2 (by unfold wrongS0; rw [if_neg hd, if_pos (.inr hk7)]) (by decide)
    rw [h1]
    repeat' (first | refine zck ?_ | refine zcp (by kernel_rfl) ?_ | refine zcl ?_ | (refine zap rfl ?_; first | refine zaj rfl ?_ | refine zan rfl ?_ | refine zan rfl ?_ | refine zaa 0 rfl rfl rfl ?_ | refine zao rfl ?_ | refine zbh rfl rfl (by omega) ?_ | refine zbk rfl rfl (by omega) ?_ | refine zbl rfl rfl (by omega) ?_ | refine zbv rfl ?_) | refine zch ?_ | refine zci rfl ?_ | refine zcj rfl ?_)
    exact ret_tmp1 rfl ⟨rfl, rfl⟩
  have hk8 : 0 ≤ s.kind ∧ s.kind ≤ 6 := by omega
  have hform := (formS_spec w0 sh s _ _ _ _ hsp hk8).dec
  have hw : wrongS0 s d = if formS s = false then 5 else if hasNm s.kind && !nameB s.name then 16 else if decide (s.num < 0) || (decide (s.kind = 4) && decide (64 < s.num)) then 3 else if hasEx s.kind = true then wrongE s.expr 1 else 0 := by
    unfold wrongS0; rw [if_neg hd, if_neg (by omega)]
  refine run_bind_eq2 (σ := { _u : Unit // wrongS0 s d = if hasEx s.kind = true then wrongE s.expr 1 else 0 }) (l' := fun _ => [(1, .int .i64 d), (2, .pointer (some ⟨be, 0, none⟩))]) (Γ' := fun _ => []) ?_ ?_
  · repeat' (first | refine zck ?_ | refine zcp (by kernel_rfl) ?_ | refine zcm ?_ | refine zcl ?_ | refine zcn ?_ | (refine zap rfl ?_; first | refine zaj rfl ?_ | refine zak rfl ?_ | refine zal rfl ?_ | refine zam rfl rfl (fun _ => ?_) (fun _ => ?_) | refine zan rfl ?_ | refine zan rfl ?_ | refine zaa 0 rfl rfl rfl ?_ | refine zah [] hform rfl rfl rfl sub_nil rfl ?_ | refine zah [] (isName_spec w0 hk _).dec rfl rfl rfl sub_nil rfl ?_ | refine zah [] (hasName_spec w0 _).dec rfl rfl rfl sub_nil rfl ?_ | refine zao rfl ?_ | refine zbh rfl rfl (by omega) ?_ | refine zbl rfl rfl (by omega) ?_ | refine zbo rfl rfl ?_ | refine zbq rfl rfl ?_ | refine zbs rfl rfl ?_ | refine zby rfl ?_ | refine zbu rfl ?_ | refine zbv rfl ?_) | refine zch ?_ | refine zci rfl ?_ | refine zcj rfl ?_ | refine run_cond rfl (fun _ => ?_) (fun _ => ?_))
    all_goals refine run_take [] rfl ?_
    all_goals first | exact qret1 (fun _ _ h => h) rfl ⟨int_eq (hE _ (by rw [hw]; clear hE hform hw hsp hL hs; first | (simp_all; done) | (simp_all; intros; omega)) (by decide)).symm, rfl⟩ | exact cut_end ⟨rfl, ⟨(), by rw [hw]; clear hE hform hw hsp hL hs; first | (simp_all; done) | (simp_all; intros; omega)⟩, ⟨rfl, rfl, trivial⟩, rfl⟩
  · rintro ⟨_, hw0⟩ junk
    repeat (first | refine zck ?_ | refine zcl ?_ | refine zcm ?_ | refine zcn ?_)
    first | refine zcp (by kernel_rfl) ?_ | refine zcq PP_mixed (by kernel_rfl) (by kernel_rfl) ?_
    repeat' (refine zap rfl ?_; first | refine zaa 0 rfl rfl rfl ?_ | refine zah [] (hasExpr_spec w0 _).dec rfl rfl rfl sub_nil rfl ?_ | refine zao rfl ?_)
    all_goals refine zch ?_
    all_goals repeat (refine zck ?_)
    refine run_bind_eq2 (σ := { _u : Unit // wrongS0 s d = 0 }) (l' := fun _ => [(1, .int .i64 d), (2, .pointer (some ⟨be, 0, none⟩))]) (Γ' := fun _ => []) ?_ ?_
    · refine run_cond rfl (fun hX => ?_) (fun hX => ?_)
      · rw [if_pos hX] at hw0
        have hsz : s.expr.size ≤ 1000000 := by have := s.size_expr; omega
        have hcall := wrongE_spec w0 hk 1000000 sh s.expr _ _ 1 hsz (by omega) hsp.a hsp.o (by omega)
        by_cases h0 : wrongE s.expr 1 = 0
        · rw [h0] at hw0 hcall
          repeat' (first | refine zck ?_ | refine zcp (by kernel_rfl) ?_ | refine zcm ?_ | (refine zap rfl ?_; first | refine zan rfl ?_ | refine zan rfl ?_ | refine zaa 0 rfl rfl rfl ?_ | refine zah [] hcall rfl rfl rfl (fun p hp => by simp [hp]) rfl ?_ | refine zce rfl ?_ | refine zao rfl ?_ | refine zbf rfl rfl (by omega) ?_) | refine zch ?_ | refine zcj rfl ?_)
          exact cut_end ⟨rfl, ⟨(), hw0⟩, ⟨rfl, rfl, trivial⟩, rfl⟩
        · repeat' (first | refine zck ?_ | refine zcp (by kernel_rfl) ?_ | (refine zap rfl ?_; first | refine zan rfl ?_ | refine zan rfl ?_ | refine zaa 0 rfl rfl rfl ?_ | refine zah [] hcall rfl rfl rfl (fun p hp => by simp [hp]) rfl ?_ | refine zce rfl ?_ | refine zao rfl ?_ | refine zbe rfl rfl (by omega) ?_) | refine zch ?_ | refine zci rfl ?_)
          exact qret1 (fun _ _ h => h) rfl ⟨int_eq (hE _ hw0 h0).symm, rfl⟩
      · rw [if_neg hX] at hw0
        repeat' (first | refine zcm ?_ | (refine zap rfl ?_; first | refine zaj rfl ?_ | refine zak rfl ?_ | refine zal rfl ?_ | refine zam rfl rfl (fun _ => ?_) (fun _ => ?_)) | refine zch ?_)
        exact cut_end ⟨rfl, ⟨(), hw0⟩, ⟨rfl, rfl, trivial⟩, rfl⟩
    · rintro ⟨_, hw1⟩ junk
      repeat' (first | refine zck ?_ | refine zcp (by kernel_rfl) ?_ | refine zcl ?_ | (refine zap rfl ?_; first | refine reg_buildSlice rfl rfl rfl rfl rfl rfl (fun nb2 => ?_) | refine zan rfl ?_ | refine zaa 0 rfl rfl rfl ?_ | refine zce rfl ?_ | refine zao rfl ?_) | refine zch ?_)
      refine run_share [0] rfl ?_
      have hget : ∀ i, i < 2 → ∃ (a : Option Addr) (c : Nat) (L : List PS), (∀ o, o = 0 + i * 1 → rd false 1 [Value.slice a3 s.body.length c3, Value.slice a4 s.els.length c4] o = some (.slice a L.length c)) ∧ RdSt w0 sh (.slice a L.length c) L ∧ PS.sizeL L ≤ n ∧
          (i = 0 → L = s.body) ∧ (i = 1 → L = s.els) := by
        intro i hi
        have h2 := PS.size_body s
        have h3 := PS.size_els s
        rcases (by omega : i = 0 ∨ i = 1) with rfl | rfl
        · exact ⟨a3, c3, s.body, fun o ho => by subst ho; rfl, hsp.b, by omega, fun _ => rfl, fun h => by omega⟩
        · exact ⟨a4, c4, s.els, fun o ho => by subst ho; rfl, hsp.e, by omega, fun h => by omega, fun _ => rfl⟩
      have hwe := wrongS_eq s d
      rw [hw1, if_neg (by decide)] at hwe
      refine run_loop (S := Nat) (fun i => [(1, .int .i64 d), (62, .slice (some ⟨nb2, 0, none⟩) 2 2), (63, .int .i64 2), (64, .int .i64 i)])
        (fun i Γ => Γ = [] ∧ i ≤ 2 ∧ (1 ≤ i → wrongSs s.body (d + 1) = 0) ∧ (2 ≤ i → wrongSs s.els (d + 1) = 0)) (fun i => 2 - i) 0 ⟨rfl, rfl, rfl, rfl, trivial⟩ ⟨rfl, by omega, fun h => by omega, fun h => by omega⟩ ?_
      rintro i Γ junk ⟨rfl, g1, g2, g3⟩
      by_cases hi : i < 2
      · obtain ⟨a, c, L, l1, l2, l3, l5, l6⟩ := hget i hi
        have hwL : wrongSs L (d + 1) ≠ 0 → wrongS s d = wrongSs L (d + 1) := fun h => by
          rcases (by omega : i = 0 ∨ i = 1) with h0 | h0
          · rw [hwe, ← l5 h0, if_pos h]
          · rw [hwe, g2 (by omega), if_neg (by decide), ← l6 h0]
        have hcall := hL sh _ L (d + 1) l3 l2 (by omega) (by omega)
        by_cases h0 : wrongSs L (d + 1) = 0
        · rw [h0] at hcall
          repeat' (first | refine zck ?_ | refine zcp (by kernel_rfl) ?_ | refine zcm ?_ | refine zcl ?_ | refine zcn ?_ | (refine zap rfl ?_; first | refine zaa 0 rfl rfl (l1 _ (by omega)) ?_ | refine zan rfl ?_ | refine zan rfl ?_ | refine zce rfl ?_ | refine zah [] hcall rfl rfl rfl (fun p hp => by simp [hp]) rfl ?_ | refine zce rfl ?_ | refine zbf rfl rfl (by omega) ?_ | refine zbg rfl rfl (by omega) ?_ | refine zau rfl rfl (by omega) ?_ | refine zas rfl rfl (by omega) ?_) | refine zch ?_ | refine zci rfl ?_ | refine zcj rfl ?_)
          exact cut_end ⟨rfl, i + 1, ⟨rfl, rfl, rfl, int_eq (by omega), trivial⟩, ⟨rfl, by omega, fun h => by
            by_cases hz : i = 0
            · rw [← l5 hz]; exact h0
            · exact g2 (by omega), fun h => by rw [← l6 (by omega)]; exact h0⟩, by omega⟩
        · repeat' (first | refine zck ?_ | refine zcp (by kernel_rfl) ?_ | refine zcm ?_ | refine zcl ?_ | (refine zap rfl ?_; first | refine zaa 0 rfl rfl (l1 _ (by omega)) ?_ | refine zan rfl ?_ | refine zan rfl ?_ | refine zce rfl ?_ | refine zah [] hcall rfl rfl rfl (fun p hp => by simp [hp]) rfl ?_ | refine zce rfl ?_ | refine zbe rfl rfl (by omega) ?_ | refine zbg rfl rfl (by omega) ?_ | refine zau rfl rfl (by omega) ?_ | refine zas rfl rfl (by omega) ?_) | refine zch ?_ | refine zci rfl ?_)
          exact qret1 (fun _ _ h => h) rfl ⟨int_eq (hwL h0).symm, rfl⟩
      · repeat' (first | refine zck ?_ | refine zcp (by kernel_rfl) ?_ | (refine zap rfl ?_; first | refine zbh rfl rfl (by omega) ?_) | refine zch ?_ | refine zcj rfl ?_)
        refine cut_exit rfl rfl ?_
        repeat' (first | refine zck ?_ | refine zcp (by kernel_rfl) ?_ | (refine zap rfl ?_; first | refine zan rfl ?_) | refine zch ?_)
        refine ret_tmp1 rfl ⟨int_eq ?_, rfl⟩
        rw [hwe, g2 (by omega), if_neg (by decide), g3 (by omega)]
theorem wrongS_spec (w0 : World) (hk : KwOk w0) : ∀ n, n ≤ 1000000 → SSpec w0 n
  | 0, _ => fun sh s va vo vb ve d h => by have := s.size_pos; omega
  | n + 1, hn => wrongS_step w0 hk n hn (wrongs_of w0 n (by omega) (wrongS_spec w0 hk n (by omega)))
theorem wrongs_spec (w0 : World) (hk : KwOk w0) : LSpec w0 1000000 := wrongs_of w0 1000000 (by omega) (wrongS_spec w0 hk 1000000 (by omega))
end Go.Proofs.YtfnjeldpfilplaaGreatDoor

namespace Sim
open Go Go.Vc
def idxP {α : Type} (p : α → Bool) : List α → Int → Int
  | [], _ => -1
  | x :: l, k => if p x = true then k else idxP p l (k + 1)
theorem idxP_any {α : Type} (p : α → Bool) : ∀ (l : List α) (k : Int), 0 ≤ k → decide (0 ≤ idxP p l k) = l.any p
  | [], k, _ => rfl
  | x :: l, k, h => by
    have ih := idxP_any p l (k + 1) (by omega)
    by_cases e : p x = true
    · have e1 : idxP p (x :: l) k = k := by rw [idxP, if_pos e]
      rw [e1, List.any_cons, e, decide_eq_true h]; rfl
    · have e1 : idxP p (x :: l) k = idxP p l (k + 1) := by rw [idxP, if_neg e]
      rw [e1, ih, List.any_cons, Bool.eq_false_iff.2 e, Bool.false_or]
def metM (l : List ByteArray) : SM := l.map fun s => (s, .bool true)
theorem metM_look (x : ByteArray) : ∀ l : List ByteArray, lookS (metM l) x = if inS l x = true then some (.bool true) else none
  | [] => rfl
  | s :: l => by
    have ih := metM_look x l
    simp only [metM, List.map_cons, lookS] at ih ⊢
    rw [ih]
    by_cases e : s = x
    · subst e; simp [inS]
    · have h1 : inS (s :: l) x = inS l x := by simp only [inS, List.any_cons]; rw [decide_eq_false e, Bool.false_or]
      rw [if_neg e, h1]
theorem metM_ins {l : List ByteArray} {x : ByteArray} (h : inS l x = false) : insS (metM l) x (.bool true) = metM (l ++ [x]) := by
  rw [insS_none _ _ _ (by rw [metM_look, h]; rfl)]
  simp [metM]
end Sim
namespace Go.Proofs.YtfnjeldpfilplaaGreatDoor
open Go.Vc Sim
theorem idxS_spec (w0 : World) (sh : Shared) (v : Value) (l : List ByteArray) (p : ByteArray → Bool) (f : FuncId) (caps : Array Value) (hl : RdSl w0 sh encY 1 v l) (hb : l.length ≤ 1099511627776)
    (hf : ∀ x, FnE PP w0 sh f (.string x :: caps.toList) [] (.bool (p x)) []) :
    FnE PP w0 sh 69 [v, .func (.func f) #[] caps] [] (.int .i64 (idxP p l 0)) [] := by
  obtain ⟨a, cap, hv, _⟩ := id hl
  subst hv
  refine fn_of_run en69 fn69 rfl rfl rfl ?_
  repeat' (first | refine zck ?_ | refine zcp (by kernel_rfl) ?_ | refine zcl ?_ | (refine zap rfl ?_; first | refine zan rfl ?_ | refine zan rfl ?_ | refine zce rfl ?_) | refine zch ?_)
  refine run_loop (S := Nat) (fun j => [(0, .slice a l.length cap), (1, .func (.func f) #[] caps), (7, .int .i64 l.length), (8, .int .i64 j)])
    (fun j Γ => Γ = [] ∧ j ≤ l.length ∧ idxP p (l.drop j) j = idxP p l 0) (fun j => l.length - j) 0 ⟨rfl, rfl, rfl, rfl, trivial⟩ ⟨rfl, by omega, rfl⟩ ?_
  rintro j Γ junk ⟨rfl, g1, g2⟩
  by_cases hj : j < l.length
  · obtain ⟨x, hx⟩ : ∃ x, l[j]? = some x := ⟨_, List.getElem?_eq_getElem hj⟩
    obtain ⟨b, off, c, T, fr, rfl, e2, _, e3⟩ := hl.cells hx
    have hd : l.drop j = x :: l.drop (j + 1) := by
      rw [List.drop_eq_getElem_cons hj]
      congr 1
      exact (List.getElem?_eq_some_iff.1 hx).2
    have hc := hf x
    rw [hd, idxP] at g2
    by_cases hs : p x = true
    · rw [if_pos hs] at g2
      rw [hs] at hc
      repeat' (first | refine zck ?_ | refine zcp (by kernel_rfl) ?_ | refine zcm ?_ | refine zcl ?_ | (refine zap rfl ?_; first | refine zad rfl e2 (e3 0 _ rfl _ (by omega)) ?_ | refine zan rfl ?_ | refine zan rfl ?_ | refine zah [] hc rfl rfl rfl (fun _ h => h) rfl ?_ | refine zbg rfl rfl (by omega) ?_ | refine zas rfl rfl (by omega) ?_) | refine zch ?_ | refine zci rfl ?_)
      exact qret1 (fun _ _ h => h) rfl ⟨by rw [← g2]; rfl, rfl⟩
    · rw [if_neg hs] at g2
      rw [Bool.eq_false_iff.2 hs] at hc
      repeat' (first | refine zck ?_ | refine zcp (by kernel_rfl) ?_ | refine zcm ?_ | refine zcl ?_ | refine zcn ?_ | (refine zap rfl ?_; first | refine zad rfl e2 (e3 0 _ rfl _ (by omega)) ?_ | refine zan rfl ?_ | refine zan rfl ?_ | refine zah [] hc rfl rfl rfl (fun _ h => h) rfl ?_ | refine zbg rfl rfl (by omega) ?_ | refine zau rfl rfl (by omega) ?_ | refine zas rfl rfl (by omega) ?_) | refine zch ?_ | refine zci rfl ?_ | refine zcj rfl ?_)
      exact cut_end ⟨rfl, j + 1, ⟨rfl, rfl, rfl, int_eq (by omega), trivial⟩, ⟨rfl, by omega, by rw [← g2]; rfl⟩, by omega⟩
  · repeat' (first | refine zck ?_ | refine zcp (by kernel_rfl) ?_ | (refine zap rfl ?_; first | refine zbh rfl rfl (by omega) ?_) | refine zch ?_ | refine zcj rfl ?_)
    refine cut_exit rfl rfl ?_
    repeat' (first | refine zck ?_ | refine zcp (by kernel_rfl) ?_ | (refine zap rfl ?_; first | refine zan rfl ?_) | refine zch ?_)
    rw [List.drop_of_length_le (by omega)] at g2
    exact ret_tmp1 rfl ⟨by rw [← g2]; rfl, rfl⟩
theorem conF_spec (w0 : World) (sh : Shared) (v : Value) (l : List ByteArray) (p : ByteArray → Bool) (f : FuncId) (caps : Array Value) (hl : RdSl w0 sh encY 1 v l) (hb : l.length ≤ 1099511627776)
    (hf : ∀ x, FnE PP w0 sh f (.string x :: caps.toList) [] (.bool (p x)) []) :
    FnE PP w0 sh 52 [v, .func (.func f) #[] caps] [] (.bool (l.any p)) [] := by
  refine fn_of_run en52 fn52 rfl rfl rfl ?_
  repeat' (first | refine zck ?_ | refine zcp (by kernel_rfl) ?_ | (refine zap rfl ?_; first | refine zan rfl ?_ | refine zan rfl ?_ | refine zah [] (idxS_spec w0 sh v l p f caps hl hb hf) rfl rfl rfl (fun _ h => h) rfl ?_ | refine zbt rfl rfl ?_) | refine zch ?_)
  exact ret_tmp1 rfl ⟨bool_eq (idxP_any p l 0 (Int.le_refl _)), rfl⟩
theorem fresh1_spec (w0 : World) (hk : KwOk w0) (x : ByteArray) : FnE PP w0 [] 53 [.string x] [] (.bool (!nameB x)) [] := by
  refine fn_of_run en53 fn53 rfl rfl rfl ?_
  repeat' (first | refine zck ?_ | refine zcp (by kernel_rfl) ?_ | (refine zap rfl ?_; first | refine zan rfl ?_ | refine zan rfl ?_ | refine zah [] (isName_spec w0 hk x) rfl rfl rfl sub_nil rfl ?_ | refine zbx rfl ?_) | refine zch ?_)
  exact ret_tmp1 rfl ⟨rfl, rfl⟩
theorem fresh_spec (w0 : World) (hk : KwOk w0) (sh : Shared) (r : Nat) (met : List ByteArray) (name : ByteArray) (vm : Value) (more : List ByteArray) (hm : RdSl w0 sh encY 1 vm more) (hb : more.length ≤ 1000) :
    FnE PP w0 sh 37 [.map (some r), .string name, vm] [MapS r (metM met)] (.int .i64 (freshN met name more)) [MapS r (metM (if freshN met name more = 0 then met ++ [name] else met))] := by
  have hcf := (conF_spec w0 sh vm more (fun s => !nameB s) 53 #[] hm (by omega) (fun x => (fresh1_spec w0 hk x).share sub_nil)).dec
  have hin := (isName_spec w0 hk name).dec
  have hlk := metM_look name met
  have key : freshN met name more = if nameB name = true ∧ ¬ (more.any (fun s => !nameB s) = true) then (if inS met name = true then 11 else 0) else 16 := by
    unfold freshN
    cases nameB name <;> cases more.any (fun s => !nameB s) <;> cases inS met name <;> rfl
  by_cases h1 : nameB name = true ∧ ¬ (more.any (fun s => !nameB s) = true)
  · rw [if_pos h1] at key
    obtain ⟨h1, h2⟩ := h1
    rw [decide_eq_true h1] at hin
    rw [decide_eq_false h2] at hcf
    by_cases h3 : inS met name = true
    · rw [if_pos h3] at key hlk
      rw [key, if_neg (by decide)]
      refine fn_of_run en37 fn37 rfl rfl rfl ?_
      repeat' (first | refine zck ?_ | refine zcp (by kernel_rfl) ?_ | refine zcm ?_ | (refine zap rfl ?_; first | refine reg_lookupS 0 (v := .bool true) rfl rfl rfl (by rw [hlk]; rfl) ?_ | refine zaj rfl ?_ | refine zan rfl ?_ | refine zan rfl ?_ | refine zah [] hin rfl rfl rfl sub_nil rfl ?_ | refine zah [] hcf rfl rfl rfl (fun _ h => h) rfl ?_ | refine zbx rfl ?_ | refine zbv rfl ?_) | refine zch ?_ | refine zci rfl ?_ | refine zcj rfl ?_)
      exact ret_tmp1 rfl ⟨rfl, rfl⟩
    · rw [if_neg h3] at key hlk
      rw [key, if_pos rfl]
      have h4 := metM_ins (Bool.eq_false_iff.2 h3)
      refine fn_of_run en37 fn37 rfl rfl rfl ?_
      repeat' (first | refine zck ?_ | refine zcp (by kernel_rfl) ?_ | refine zcm ?_ | (refine zap rfl ?_; first | refine reg_lookupS 0 (v := .bool false) rfl rfl rfl (by rw [hlk]; rfl) ?_ | refine reg_mapUpdateS 0 (u := .bool true) (Γ' := [MapS r (metM (met ++ [name]))]) rfl rfl rfl rfl (by rw [h4]; rfl) ?_ | refine zaj rfl ?_ | refine zan rfl ?_ | refine zan rfl ?_ | refine zah [] hin rfl rfl rfl sub_nil rfl ?_ | refine zah [] hcf rfl rfl rfl (fun _ h => h) rfl ?_ | refine zbx rfl ?_ | refine zbv rfl ?_) | refine zch ?_ | refine zcj rfl ?_)
      exact ret_tmp1 rfl ⟨rfl, rfl⟩
  · rw [if_neg h1] at key
    rw [key, if_neg (by decide)]
    by_cases h2 : nameB name = true
    · have h3 : more.any (fun s => !nameB s) = true := Classical.byContradiction fun h => h1 ⟨h2, h⟩
      rw [decide_eq_true h2] at hin
      rw [decide_eq_true h3] at hcf
      refine fn_of_run en37 fn37 rfl rfl rfl ?_
      repeat' (first | refine zck ?_ | refine zcp (by kernel_rfl) ?_ | (refine zap rfl ?_; first | refine zaj rfl ?_ | refine zan rfl ?_ | refine zan rfl ?_ | refine zah [] hin rfl rfl rfl sub_nil rfl ?_ | refine zah [] hcf rfl rfl rfl (fun _ h => h) rfl ?_ | refine zbx rfl ?_ | refine zbv rfl ?_) | refine zch ?_ | refine zci rfl ?_)
      exact ret_tmp1 rfl ⟨rfl, rfl⟩
    · rw [decide_eq_false h2] at hin
      refine fn_of_run en37 fn37 rfl rfl rfl ?_
      repeat' (first | refine zck ?_ | refine zcp (by kernel_rfl) ?_ | (refine zap rfl ?_; first | refine zak rfl ?_ | refine zan rfl ?_ | refine zan rfl ?_ | refine zah [] hin rfl rfl rfl sub_nil rfl ?_ | refine zbx rfl ?_ | refine zbu rfl ?_) | refine zch ?_ | refine zci rfl ?_)
      exact ret_tmp1 rfl ⟨rfl, rfl⟩
end Go.Proofs.YtfnjeldpfilplaaGreatDoor

namespace Sim
def Ef.sm (e : Ef) (n : Nat) : Prop := e.reads.length ≤ n ∧ e.writes.length ≤ n ∧ e.hosts.length ≤ n
end Sim
namespace Go.Vc
open Sim
def RdEfV (w0 : World) (sh : Shared) (v : Value) (e : Ef) : Prop := ∃ c, v = .agg (List.toArray c) ∧ RdEf w0 sh c e
theorem RdEfV.mono {w0 : World} {sh sh' : Shared} {v : Value} {e : Ef} (h : RdEfV w0 sh v e) (hs : ∀ p ∈ sh, p ∈ sh') : RdEfV w0 sh' v e := let ⟨c, h1, h2⟩ := h; ⟨c, h1, h2.mono hs⟩
theorem RdEfV.zero {w0 : World} {sh : Shared} : RdEfV w0 sh (.agg (List.toArray [.slice none 0 0, .slice none 0 0, .slice none 0 0, .int .i64 0])) zeroE := ⟨_, rfl, _, _, _, rfl, RdSl.nil, RdSl.nil, RdSl.nil⟩
theorem joinE_sm {a b : Ef} {n m : Nat} (ha : a.sm n) (hb : b.sm m) : (joinE a b).sm (n + m) := by
  obtain ⟨h1, h2, h3⟩ := ha
  obtain ⟨h4, h5, h6⟩ := hb
  have e1 := normN_len (a.reads ++ b.reads)
  have e2 := normN_len (a.writes ++ b.writes)
  have e3 := normN_len (a.hosts ++ b.hosts)
  rw [List.length_append] at e1 e2 e3
  exact ⟨by show (normN _).length ≤ _; omega, by show (normN _).length ≤ _; omega, by show (normN _).length ≤ _; omega⟩
theorem RdSl.val {w0 : World} {sh : Shared} {v : Value} {l : List ByteArray} (h : RdSl w0 sh encY 1 v l) : ∃ a c, v = .slice a l.length c := let ⟨a, c, h1, _⟩ := h; ⟨a, c, h1⟩
abbrev efA (x1 : Option Addr) (n1 y1 : Nat) (x2 : Option Addr) (n2 y2 : Nat) (x3 : Option Addr) (n3 y3 : Nat) (c : Int) : Value := .agg (List.toArray [.slice x1 n1 y1, .slice x2 n2 y2, .slice x3 n3 y3, .int .i64 c])
theorem RdEfV.form {w0 : World} {sh : Shared} {v : Value} {e : Ef} (h : RdEfV w0 sh v e) : ∃ x1 y1 x2 y2 x3 y3, v = efA x1 e.reads.length y1 x2 e.writes.length y2 x3 e.hosts.length y3 e.calls := by
  obtain ⟨_, rfl, v1, v2, v3, rfl, h1, h2, h3⟩ := h
  obtain ⟨a1, c1, rfl⟩ := h1.val
  obtain ⟨a2, c2, rfl⟩ := h2.val
  obtain ⟨a3, c3, rfl⟩ := h3.val
  exact ⟨_, _, _, _, _, _, rfl⟩
theorem RdEfV.calls {w0 : World} {sh : Shared} {x1 : Option Addr} {n1 y1 : Nat} {x2 : Option Addr} {n2 y2 : Nat} {x3 : Option Addr} {n3 y3 : Nat} {c : Int} {e : Ef} (h : RdEfV w0 sh (efA x1 n1 y1 x2 n2 y2 x3 n3 y3 c) e) (c' : Int) : RdEfV w0 sh (efA x1 n1 y1 x2 n2 y2 x3 n3 y3 c') { e with calls := c' } := by
  obtain ⟨_, e1, v1, v2, v3, rfl, h1, h2, h3⟩ := h
  simp at e1
  obtain ⟨rfl, rfl, rfl, _⟩ := e1
  exact ⟨_, rfl, _, _, _, rfl, h1, h2, h3⟩
end Go.Vc
namespace Go.Proofs.YtfnjeldpfilplaaGreatDoor
open Go.Vc Sim
theorem unlike_own (w0 : World) (sh : Shared) (ob : Nat) (v1 v2 : Value) (l1 l2 : List ByteArray) (h1 : RdSl w0 sh encY 1 v1 l1) (h2 : RdSl w0 sh encY 1 v2 l2) (hn : l1.length + l2.length ≤ 60000) :
    Vc.Fn PP w0 sh 57 [.slice (some ⟨ob, 0, none⟩) 2 2] [pt ob (.cells (List.toArray [v1, v2]) 23 (0, 0))] (fun v Γ => ∃ a c, v = .slice a (normN (l1 ++ l2)).length c ∧ Γ = [Rds fun bl => RdSl w0 bl encY 1 v (normN (l1 ++ l2)), pt ob (.cells (List.toArray [v1, v2]) 23 (0, 0))]) := by
  refine (unlike_spec w0 ((ob, .cells (List.toArray [v1, v2]) 23 (0, 0)) :: sh) ob v1 v2 l1 l2 (h1.mono fun p hp => List.mem_cons_of_mem _ hp) (h2.mono fun p hp => List.mem_cons_of_mem _ hp) hn (.head _)).owned.know ?_
  rintro v Γ ⟨_, rfl, rfl⟩ hst
  obtain ⟨bl, hb⟩ := Rds.st hst
  obtain ⟨a, c, hv, _⟩ := hb
  exact ⟨a, c, hv, rfl⟩
set_option maxHeartbeats 1000000 in
theorem join_spec (w0 : World) (sh : Shared) (va vb : Value) (a b : Ef) (ha : RdEfV w0 sh va a) (hb : RdEfV w0 sh vb b) (sa : a.sm 30000) (sb : b.sm 30000) :
    Vc.Fn PP w0 sh 43 [va, vb] [] (fun v Γ => Γ = [Rds fun bl => RdEfV w0 bl v (joinE a b)]) := by
  obtain ⟨_, rfl, v1, v2, v3, rfl, h1, h2, h3⟩ := ha
  obtain ⟨_, rfl, u1, u2, u3, rfl, g1, g2, g3⟩ := hb
  obtain ⟨a1, c1, rfl⟩ := h1.val
  obtain ⟨a2, c2, rfl⟩ := h2.val
  obtain ⟨a3, c3, rfl⟩ := h3.val
  obtain ⟨b1, d1, rfl⟩ := g1.val
  obtain ⟨b2, d2, rfl⟩ := g2.val
  obtain ⟨b3, d3, rfl⟩ := g3.val
  obtain ⟨s1, s2, s3⟩ := sa
  obtain ⟨t1, t2, t3⟩ := sb
  refine fn_of_run en43 fn43 rfl rfl rfl ?_
  repeat (first | refine zck ?_ | refine zcl ?_ | refine zcm ?_ | refine zcn ?_)
  first | refine zcp (by kernel_rfl) ?_ | refine zcq PP_mixed (by kernel_rfl) (by kernel_rfl) ?_
  repeat' (refine zap rfl ?_; first | refine zaq (cs := [_, _, _, _]) rfl (fun nb => ?_) | refine zar (fun nb => ?_))
  all_goals refine zch ?_
  all_goals repeat (first | refine zck ?_ | refine zcl ?_ | refine zcm ?_ | refine zcn ?_)
  refine run_share [0] rfl ?_
  refine run_share [0] rfl ?_
  repeat' (first | refine zcq PP_mixed (by kernel_rfl) (by kernel_rfl) ?_ | (refine zap rfl ?_; first | refine reg_buildSlice rfl rfl rfl rfl rfl rfl (fun nb3 => ?_) | refine zae 6 rfl rfl rfl rfl rfl rfl rfl ?_ | refine zaa 0 rfl rfl rfl ?_ | refine zaa 1 rfl rfl rfl ?_ | refine zah [] (sum_spec w0 _ _) rfl rfl rfl sub_nil rfl ?_ | (refine zai [1] (unlike_own w0 sh _ _ _ _ _ h1 g1 (by omega)) rfl rfl rfl (fun p hp => by simp [hp]) ?_; rintro v Γ ⟨x1, y1, rfl, rfl⟩) | (refine zai [3] (unlike_own w0 sh _ _ _ _ _ h2 g2 (by omega)) rfl rfl rfl (fun p hp => by simp [hp]) ?_; rintro v Γ ⟨x2, y2, rfl, rfl⟩) | (refine zai [5] (unlike_own w0 sh _ _ _ _ _ h3 g3 (by omega)) rfl rfl rfl (fun p hp => by simp [hp]) ?_; rintro v Γ ⟨x3, y3, rfl, rfl⟩) | refine zao rfl ?_ | refine zcb rfl ?_) | refine zch ?_)
  refine run_joinR [4, 2] (χ := fun bl => RdSl w0 bl encY 1 (.slice x1 (normN (a.reads ++ b.reads)).length y1) (normN (a.reads ++ b.reads)) ∧ RdSl w0 bl encY 1 (.slice x2 (normN (a.writes ++ b.writes)).length y2) (normN (a.writes ++ b.writes))) rfl
    (fun b1 b2 h1 h2 => ⟨h1.mono fun p hp => List.mem_append_left _ hp, h2.mono fun p hp => List.mem_append_right _ hp⟩) ?_
  refine run_joinR [0, 0] (χ := fun bl => RdEfV w0 bl (.agg (List.toArray [.slice x1 (normN (a.reads ++ b.reads)).length y1, .slice x2 (normN (a.writes ++ b.writes)).length y2, .slice x3 (normN (a.hosts ++ b.hosts)).length y3, .int .i64 (sumC a.calls b.calls)])) (joinE a b)) rfl
    (fun b1 b2 h1 h2 => ⟨_, rfl, _, _, _, rfl, h1.1.mono fun p hp => List.mem_append_left _ hp, h1.2.mono fun p hp => List.mem_append_left _ hp, h2.mono fun p hp => List.mem_append_right _ hp⟩) ?_
  exact run_ret (leaves_nil (ends_take [0] rfl (ends_one rfl (resOk_pt 4 rfl rfl rfl) ⟨rfl, rfl⟩)))
theorem join_form (w0 : World) (sh : Shared) (va vb : Value) (a b : Ef) (ha : RdEfV w0 sh va a) (hb : RdEfV w0 sh vb b) (sa : a.sm 30000) (sb : b.sm 30000) :
    Vc.Fn PP w0 sh 43 [va, vb] [] (fun v Γ => ∃ x1 y1 x2 y2 x3 y3, v = efA x1 (joinE a b).reads.length y1 x2 (joinE a b).writes.length y2 x3 (joinE a b).hosts.length y3 (joinE a b).calls ∧ Γ = [Rds fun bl => RdEfV w0 bl v (joinE a b)]) := by
  refine (join_spec w0 sh va vb a b ha hb sa sb).know ?_
  rintro v Γ rfl hst
  obtain ⟨bl, hbl⟩ := Rds.st hst
  obtain ⟨x1, y1, x2, y2, x3, y3, h⟩ := hbl.form
  exact ⟨x1, y1, x2, y2, x3, y3, h, rfl⟩
theorem times_spec (w0 : World) (sh : Shared) (va : Value) (a : Ef) (n : Int) (ha : RdEfV w0 sh va a) (sa : a.sm 30000) (hn : n ≤ 9223372036854775807) :
    Vc.Fn PP w0 sh 60 [va, .int .i64 n] [] (fun v Γ => Γ = [Rds fun bl => RdEfV w0 bl v (timesE a n)]) := by
  have hj := join_form w0 sh va _ a zeroE ha RdEfV.zero sa ⟨by decide, by decide, by decide⟩
  obtain ⟨p1, q1, p2, q2, p3, q3, hva⟩ := ha.form
  subst hva
  have hc : 0 ≤ (joinE a zeroE).calls ∧ (joinE a zeroE).calls ≤ 4611686018427387904 := sumC_range a.calls 0
  have ht : timesE a n = if n < 1 then zeroE else { joinE a zeroE with calls := if mostC / n < (joinE a zeroE).calls then mostC else (joinE a zeroE).calls * n } := rfl
  generalize hJ : joinE a zeroE = J at *
  refine fn_of_run en60 fn60 rfl rfl rfl ?_
  by_cases h1 : n < 1
  · rw [if_pos h1] at ht
    repeat' (first | refine zck ?_ | refine zcp (by kernel_rfl) ?_ | (refine zap rfl ?_; first | refine zan rfl ?_ | refine zbg rfl rfl (by omega) ?_ | refine zae 1 rfl rfl rfl rfl rfl rfl rfl ?_ | refine zaq (cs := [_, _, _, _]) rfl (fun nb => ?_) | refine zar (fun nb => ?_) | refine zcb rfl ?_) | refine zch ?_ | refine zci rfl ?_)
    refine run_emptyR (fun bl => RdEfV w0 bl (efA none 0 0 none 0 0 none 0 0 0) zeroE) RdEfV.zero ?_
    rw [ht]
    exact run_ret (leaves_nil (ends_take [0] rfl (ends_one rfl (resOk_pt 2 rfl rfl rfl) ⟨rfl, rfl⟩)))
  · rw [if_neg h1] at ht
    obtain ⟨X, hX⟩ : ∃ X, (4611686018427387904 : Int) / n = X := ⟨_, rfl⟩
    have ht : timesE a n = { J with calls := if X < J.calls then 4611686018427387904 else J.calls * n } := by rw [ht, ← hX]
    have hd : X < J.calls ∨ (J.calls ≤ X ∧ J.calls * n ≤ 4611686018427387904 ∧ 0 ≤ J.calls * n) := by
      by_cases h : X < J.calls
      · exact .inl h
      · refine .inr ⟨by omega, ?_, Int.mul_nonneg hc.1 (by omega)⟩
        have h2 : J.calls * n ≤ X * n := Int.mul_le_mul_of_nonneg_right (by omega) (by omega)
        have h3 := Int.ediv_mul_le 4611686018427387904 (show n ≠ 0 by omega)
        rw [hX] at h3
        omega
    rcases hd with hd | ⟨hd, hm1, hm2⟩
    · rw [if_pos hd] at ht
      repeat' (first | refine zck ?_ | refine zcp (by kernel_rfl) ?_ | refine run_drawR PP_mixed (by kernel_rfl) (by kernel_rfl) ?_ | refine zcm ?_ | (refine zap rfl ?_; first | (refine zax rfl rfl (by omega) ?_; rw [hX]) | refine zan rfl ?_ | refine zab 0 rfl rfl rfl ?_ | refine zab 3 rfl rfl rfl ?_ | (refine zai [] hj rfl rfl rfl (fun _ h => h) ?_; rintro v Γ ⟨x1, y1, x2, y2, x3, y3, rfl, rfl⟩) | refine zao rfl ?_ | refine zbh rfl rfl (by omega) ?_ | refine zbk rfl rfl (by omega) ?_ | refine zae 2 rfl rfl rfl rfl rfl rfl rfl ?_ | refine zae 3 rfl rfl rfl rfl rfl rfl rfl ?_ | refine zaq (cs := [_, _, _, _]) rfl (fun nb => ?_) | refine zar (fun nb => ?_) | refine zcb rfl ?_) | refine zch ?_ | refine zci rfl ?_ | refine zcj rfl ?_)
      rw [ht]
      refine run_exch 0 (Rds fun bl => RdEfV w0 bl (efA x1 J.reads.length y1 x2 J.writes.length y2 x3 J.hosts.length y3 (4611686018427387904)) { J with calls := 4611686018427387904 }) rfl (fun g hg => Rds.mono (fun bl h => h.calls _) g hg) rfl ?_
      exact run_ret (leaves_nil (ends_take [0] rfl (ends_one rfl (resOk_pt 2 rfl rfl rfl) ⟨rfl, rfl⟩)))
    · rw [if_neg (by omega)] at ht
      repeat' (first | refine zck ?_ | refine zcp (by kernel_rfl) ?_ | refine run_drawR PP_mixed (by kernel_rfl) (by kernel_rfl) ?_ | refine zcm ?_ | (refine zap rfl ?_; first | (refine zax rfl rfl (by omega) ?_; rw [hX]) | refine zan rfl ?_ | refine zab 0 rfl rfl rfl ?_ | refine zab 3 rfl rfl rfl ?_ | (refine zai [] hj rfl rfl rfl (fun _ h => h) ?_; rintro v Γ ⟨x1, y1, x2, y2, x3, y3, rfl, rfl⟩) | refine zao rfl ?_ | refine zbh rfl rfl (by omega) ?_ | refine zbl rfl rfl (by omega) ?_ | refine zaw rfl rfl (by omega) ?_ | refine zae 2 rfl rfl rfl rfl rfl rfl rfl ?_ | refine zae 3 rfl rfl rfl rfl rfl rfl rfl ?_ | refine zaq (cs := [_, _, _, _]) rfl (fun nb => ?_) | refine zar (fun nb => ?_) | refine zcb rfl ?_) | refine zch ?_ | refine zcj rfl ?_)
      rw [ht]
      refine run_exch 0 (Rds fun bl => RdEfV w0 bl (efA x1 J.reads.length y1 x2 J.writes.length y2 x3 J.hosts.length y3 (J.calls * n)) { J with calls := J.calls * n }) rfl (fun g hg => Rds.mono (fun bl h => h.calls _) g hg) rfl ?_
      exact run_ret (leaves_nil (ends_take [0] rfl (ends_one rfl (resOk_pt 2 rfl rfl rfl) ⟨rfl, rfl⟩)))
end Go.Proofs.YtfnjeldpfilplaaGreatDoor

namespace Go.Vc
open Sim
abbrev MRow : Type := (ByteArray × Int × Bool) × Nat
abbrev encM (r : MRow) : List Value := [.string r.1.1, .int .i64 r.1.2.1, .bool r.1.2.2, .func (.func r.2) #[] #[]]
end Go.Vc
namespace Go.Proofs.YtfnjeldpfilplaaGreatDoor
open Go.Vc Sim
def ms0 : List MRow := [((bs [103, 101, 116], 0, false), 141), ((bs [97, 100, 100], 1, true), 144), ((bs [115, 101, 116], 1, true), 146)]
def ms1 : List MRow := [((bs [112, 117, 115, 104], 1, true), 148), ((bs [112, 111, 112], 0, true), 151), ((bs [116, 111, 112], 0, false), 153), ((bs [108, 101, 110], 0, false), 155)]
def ms2 : List MRow := [((bs [112, 117, 116], 1, true), 157), ((bs [116, 97, 107, 101], 0, true), 159), ((bs [102, 105, 114, 115, 116], 0, false), 161), ((bs [108, 101, 110], 0, false), 163)]
def ms3 : List MRow := [((bs [112, 117, 115, 104, 95, 108, 101, 102, 116], 1, true), 165), ((bs [112, 117, 115, 104, 95, 114, 105, 103, 104, 116], 1, true), 167), ((bs [112, 111, 112, 95, 108, 101, 102, 116], 0, true), 168), ((bs [112, 111, 112, 95, 114, 105, 103, 104, 116], 0, true), 170), ((bs [108, 101, 102, 116], 0, false), 171), ((bs [114, 105, 103, 104, 116], 0, false), 173), ((bs [108, 101, 110], 0, false), 174)]
def ms4 : List MRow := [((bs [112, 117, 116], 2, true), 189), ((bs [103, 101, 116], 1, false), 192), ((bs [104, 97, 115], 1, false), 195), ((bs [100, 114, 111, 112], 1, true), 197), ((bs [108, 101, 110], 0, false), 200)]
def ms5 : List MRow := [((bs [112, 117, 116], 2, true), 202), ((bs [103, 101, 116], 1, false), 205), ((bs [104, 97, 115], 1, false), 207), ((bs [100, 114, 111, 112], 1, true), 208), ((bs [115, 117, 109], 2, false), 210), ((bs [99, 111, 117, 110, 116], 2, false), 212), ((bs [110, 101, 120, 116], 1, false), 214), ((bs [110, 116, 104], 1, false), 216), ((bs [108, 101, 110], 0, false), 218)]
def ms6 : List MRow := [((bs [112, 117, 115, 104], 2, true), 220), ((bs [112, 111, 112], 0, true), 223), ((bs [109, 105, 110], 0, false), 225), ((bs [108, 101, 97, 115, 116], 0, false), 227), ((bs [108, 111, 119, 101, 114], 2, true), 228), ((bs [100, 114, 111, 112], 1, true), 230), ((bs [108, 101, 110], 0, false), 232)]
def ms7 : List MRow := [((bs [112, 117, 115, 104], 1, true), 176), ((bs [112, 111, 112], 0, true), 179), ((bs [103, 101, 116], 1, false), 181), ((bs [115, 101, 116], 2, true), 183), ((bs [115, 119, 97, 112], 2, true), 185), ((bs [108, 101, 110], 0, false), 187)]
def ms8 : List MRow := [((bs [97, 100, 100], 1, true), 234), ((bs [108, 105, 110, 107], 3, true), 237), ((bs [99, 117, 116], 1, true), 239), ((bs [100, 114, 111, 112], 1, true), 241), ((bs [119, 101, 105, 103, 104, 116], 2, false), 243), ((bs [108, 97, 98, 101, 108], 1, false), 245), ((bs [111, 117, 116, 115], 1, false), 247), ((bs [105, 110, 115], 1, false), 250), ((bs [118, 101, 114, 116, 105, 99, 101, 115], 0, false), 252), ((bs [101, 100, 103, 101, 115], 0, false), 254)]
def ms9 : List MRow := [((bs [109, 97, 107, 101], 0, true), 256), ((bs [102, 105, 110, 100], 1, false), 259), ((bs [117, 110, 105, 111, 110], 2, true), 261), ((bs [117, 110, 100, 111], 0, true), 263), ((bs [115, 97, 109, 101], 2, false), 265), ((bs [115, 105, 122, 101], 1, false), 267), ((bs [115, 101, 116, 115], 0, false), 269)]
def msK (k : Int) : List MRow := if k = 0 then ms0 else if k = 1 then ms1 else if k = 2 then ms2 else if k = 3 then ms3 else if k = 4 then ms4 else if k = 5 then ms5 else if k = 6 then ms6 else if k = 7 then ms7 else if k = 8 then ms8 else if k = 9 then ms9 else []
theorem msK_rows (k : Int) : (msK k).map (·.1) = ctMeths k := by
  unfold msK ctMeths
  by_cases h : 0 ≤ k ∧ k ≤ 9
  · rcases (by omega : k = 0 ∨ k = 1 ∨ k = 2 ∨ k = 3 ∨ k = 4 ∨ k = 5 ∨ k = 6 ∨ k = 7 ∨ k = 8 ∨ k = 9) with rfl | rfl | rfl | rfl | rfl | rfl | rfl | rfl | rfl | rfl <;> rfl
  · rw [if_neg h, if_neg (by omega), if_neg (by omega), if_neg (by omega), if_neg (by omega), if_neg (by omega), if_neg (by omega), if_neg (by omega), if_neg (by omega), if_neg (by omega), if_neg (by omega)]; rfl
abbrev mSl (s n : Nat) : Value := .slice (some ⟨s, 0, none⟩) n n
abbrev mPt (s : Nat) (l : List MRow) : Asn := pt s (.cells (List.toArray (l.flatMap encM)) 185 (0, 0))
theorem names_spec (w0 : World) : Vc.Fn PP w0 [] 40 [] [] (fun v Γ => ∃ nb, v = .slice (some ⟨nb, 0, none⟩) 10 10 ∧ Γ = [Rds fun bl => RdSl w0 bl encY 1 v ctNames]) := by
  refine fn_of_run en40 fn40 rfl rfl rfl ?_
  repeat' (first | refine zck ?_ | refine zcp (by kernel_rfl) ?_ | (refine zap rfl ?_; first | refine reg_buildSlice rfl rfl rfl rfl rfl rfl (fun nb => ?_) | refine zan rfl ?_) | refine zch ?_)
  refine run_exch 0 (Rds fun bl => RdSl w0 bl encY 1 (.slice (some ⟨nb, 0, none⟩) 10 10) ctNames) rfl (fun g hg => Rds.mono (fun _ hb => RdSl.flat (encE := encY) (q := 1) (w0 := w0) (b := nb) (l := ctNames) (fun _ _ => rfl) hb) g (Rds.of_pt g hg)) rfl ?_
  exact ret_tmp1 rfl ⟨_, rfl, rfl⟩
theorem index_v (w0 : World) (sh : Shared) (v : Value) (l : List ByteArray) (s : ByteArray) (hl : RdSl w0 sh encY 1 v l) (hb : l.length ≤ 1099511627776) :
    FnE PP w0 sh 39 [v, .string s] [] (.int .i64 (ixZ s l 0)) [] := by
  obtain ⟨a, cap, e, _⟩ := id hl
  subst e
  exact index_spec w0 sh a cap l s hl hb
theorem kind_spec (w0 : World) (s : ByteArray) : FnE PP w0 [] 26 [.string s] [] (.tuple #[.int .i64 ((ctKind s).getD 0 : Nat), .bool (ctKind s).isSome]) [] := by
  obtain ⟨X, hX⟩ : ∃ X, ixZ s ctNames 0 = X := ⟨_, rfl⟩
  have h : X = match ctKind s with | some j => (j : Int) | none => -1 := hX ▸ ixZ_ixS s ctNames 0
  have hc : ∀ sh v, RdSl w0 sh encY 1 v ctNames → FnE PP w0 sh 39 [v, .string s] [] (.int .i64 X) [] := fun sh v h => hX ▸ index_v w0 sh v ctNames s h (by decide)
  refine fn_of_run en26 fn26 rfl rfl rfl ?_
  repeat' (first | refine zck ?_ | refine zcp (by kernel_rfl) ?_ | (refine zap rfl ?_; first | refine zan rfl ?_ | refine zan rfl ?_ | refine zcf rfl rfl ?_ | (refine zai [] (names_spec w0) rfl rfl rfl sub_nil ?_; rintro v Γ ⟨nb, rfl, rfl⟩) | (refine zai [0] (Fn.lendR en39 (fun sh' bl h1 h2 h3 => hc sh' _ (h3.mono h2))) rfl rfl rfl sub_nil ?_; rintro v Γ ⟨_, ⟨rfl, rfl⟩, rfl⟩) | refine zbt rfl rfl ?_) | refine zch ?_)
  refine run_take [] rfl ?_
  refine ret_tmp2 rfl ⟨?_, rfl⟩
  cases hk : ctKind s with
  | none =>
    rw [hk] at h
    have h : X = -1 := h
    subst h
    rfl
  | some j =>
    rw [hk] at h
    have h : X = (j : Int) := h
    clear hX hc hk
    subst h
    have e1 : (if (0 : Int) > (j : Int) then (0 : Int) else (j : Int)) = j := if_neg (by omega)
    have e2 : decide ((0 : Int) ≤ (j : Int)) = true := decide_eq_true (by omega)
    show Value.tuple #[.int .i64 (if (0 : Int) > (j : Int) then (0 : Int) else (j : Int)), .bool (decide ((0 : Int) ≤ (j : Int)))] = _
    rw [e1, e2]; rfl
theorem row_spec (w0 : World) : Vc.Fn PP w0 [] 136 [] [] (fun v Γ => ∃ m s0 s1 s2 s3 s7, v = .map (some m) ∧ Γ = [pt m (mapI [(0, mSl s0 3), (1, mSl s1 4), (2, mSl s2 4), (3, mSl s3 7), (7, mSl s7 6)]), mPt s0 ms0, mPt s1 ms1, mPt s2 ms2, mPt s3 ms3, mPt s7 ms7]) := by
  refine fn_of_run en136 fn136 rfl rfl rfl ?_
  repeat' (first | refine zck ?_ | refine zcp (by kernel_rfl) ?_ | (refine zap rfl ?_; first | refine reg_buildSlice rfl rfl rfl rfl rfl rfl (fun nb => ?_) | refine reg_insert 0 rfl rfl rfl rfl rfl ?_ | refine zan rfl ?_ | refine zan rfl ?_ | refine zcc (fun nb => ?_) | refine zcb rfl ?_) | refine zch ?_)
  exact ret_tmp1 rfl ⟨_, _, _, _, _, _, rfl, rfl⟩
theorem keyed_spec (w0 : World) : Vc.Fn PP w0 [] 137 [] [] (fun v Γ => ∃ m s4 s5 s6, v = .map (some m) ∧ Γ = [pt m (mapI [(4, mSl s4 5), (5, mSl s5 9), (6, mSl s6 7)]), mPt s4 ms4, mPt s5 ms5, mPt s6 ms6]) := by
  refine fn_of_run en137 fn137 rfl rfl rfl ?_
  repeat' (first | refine zck ?_ | refine zcp (by kernel_rfl) ?_ | (refine zap rfl ?_; first | refine reg_buildSlice rfl rfl rfl rfl rfl rfl (fun nb => ?_) | refine reg_insert 0 rfl rfl rfl rfl rfl ?_ | refine zan rfl ?_ | refine zan rfl ?_ | refine zcc (fun nb => ?_) | refine zcb rfl ?_) | refine zch ?_)
  exact ret_tmp1 rfl ⟨_, _, _, _, rfl, rfl⟩
theorem linked_spec (w0 : World) : Vc.Fn PP w0 [] 138 [] [] (fun v Γ => ∃ m s8 s9, v = .map (some m) ∧ Γ = [pt m (mapI [(8, mSl s8 10), (9, mSl s9 7)]), mPt s8 ms8, mPt s9 ms9]) := by
  refine fn_of_run en138 fn138 rfl rfl rfl ?_
  repeat' (first | refine zck ?_ | refine zcp (by kernel_rfl) ?_ | (refine zap rfl ?_; first | refine reg_buildSlice rfl rfl rfl rfl rfl rfl (fun nb => ?_) | refine reg_insert 0 rfl rfl rfl rfl rfl ?_ | refine zan rfl ?_ | refine zan rfl ?_ | refine zcc (fun nb => ?_) | refine zcb rfl ?_) | refine zch ?_)
  exact ret_tmp1 rfl ⟨_, _, _, rfl, rfl⟩
end Go.Proofs.YtfnjeldpfilplaaGreatDoor

